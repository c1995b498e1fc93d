/- How a sheet grows. -/
import Derived.Test.YtckhmgglgbnaaaaM10
set_option linter.unusedVariables false
set_option linter.unusedSimpArgs false
namespace Go.Lf
open Go
/-- A sheet that is made: its nodes, its bytes, and the tops that it leads to. -/
structure Gs where
  nodes : List (Nat × T)
  used : Nat
  tops : List (Nat × T)
mutual
def T.grow : T → Nat → Gs → Gs
  | .node l ks, b, s => ks.grow (b + 1) { s with nodes := s.nodes ++ [(b, .node l ks)] }
def Ks.grow : Ks → Nat → Gs → Gs
  | .nil, _, s => s
  | .cons _ t ks, b, s => ks.grow (b + t.sz) (if 243 < s.used + (t.own - 3) then { s with tops := s.tops ++ [(b, t)] } else t.grow b { s with used := s.used + (t.own - 3) })
end
def Gs.len (s : Gs) : Nat := s.nodes.length + s.tops.length
mutual
theorem T.grow_len : ∀ (t : T) (b : Nat) (s : Gs), (t.grow b s).len ≤ s.len + t.sz ∧ (s.used ≤ 243 → (t.grow b s).used ≤ 243)
  | .node l ks, b, s => by
    have := Ks.grow_len ks (b + 1) { s with nodes := s.nodes ++ [(b, .node l ks)] }
    simp only [Gs.len, List.length_append, List.length_singleton, T.grow, T.sz] at *
    exact ⟨by omega, this.2⟩
theorem Ks.grow_len : ∀ (ks : Ks) (b : Nat) (s : Gs), (ks.grow b s).len ≤ s.len + ks.sz ∧ (s.used ≤ 243 → (ks.grow b s).used ≤ 243)
  | .nil, b, s => ⟨by simp [Ks.grow], fun h => h⟩
  | .cons c t ks, b, s => by
    rw [Ks.grow, Ks.sz]
    have hp := T.sz_pos t
    split
    · have := Ks.grow_len ks (b + t.sz) { s with tops := s.tops ++ [(b, t)] }
      simp only [Gs.len, List.length_append, List.length_singleton] at *
      exact ⟨by omega, this.2⟩
    · have h1 := T.grow_len t b { s with used := s.used + (t.own - 3) }
      have h2 := Ks.grow_len ks (b + t.sz) (t.grow b { s with used := s.used + (t.own - 3) })
      simp only [Gs.len] at *
      exact ⟨by omega, fun h => h2.2 (h1.2 (by omega))⟩
end
def ix (x : List (Nat × T)) : List Int := x.map fun y => ((y.1 : Nat) : Int)
abbrev GRec := (List Node) → (List ByteArray) → (List Plan) → (List Int) → Int → (List Int) → Int → Option (Int × List Int × List Int)
def GrowR (a : List Node) (pp : List ByteArray) (sh : List Plan) (rc : GRec) (t : T) (b : Nat) : Prop :=
  ∀ s : Gs, s.used ≤ 243 → s.len ≤ b → rc a pp sh (ix s.nodes) (s.used : Int) (ix s.tops) (b : Int) = some (((t.grow b s).used : Int), ix (t.grow b s).nodes, ix (t.grow b s).tops)
def Ks.all (R : T → Nat → Prop) : Ks → Nat → Prop
  | .nil, _ => True
  | .cons _ t ks, b => R t b ∧ ks.all R (b + t.sz)
abbrev LL (a : List Node) : T → Nat → Prop := fun t b => Lies a b t
theorem ix_app (x y : List (Nat × T)) : ix (x ++ y) = ix x ++ ix y := by simp [ix]
theorem grow_l0 {a : List Node} (ha : a.length ≤ 1000000000) {pp : List ByteArray} {sh : List Plan} {f : Nat} {rc : GRec} :
    ∀ (fuel m : Nat) (ks : Ks) (bk : Nat) (s : Gs), 16 - m < fuel → m ≤ 16 → ks.at bk (gt a (f : Int)).kids_ m → 0 < bk → ks.ok → ks.all (LL a) bk → ks.all (GrowR a pp sh rc) bk → s.used ≤ 243 → s.len ≤ bk →
      pack_packer_grow.l0 a pp sh f rc fuel (ix s.nodes, ix s.tops, s.used, m) = some (ix (ks.grow bk s).nodes, ix (ks.grow bk s).tops, ((ks.grow bk s).used : Int))
  | 0, m, ks, bk, s, h, _, _, _, _, _, _, _, _ => by omega
  | fuel + 1, m, ks, bk, s, h, hm, hat, hb, hok, hli, hre, hu, hl => by
    rw [pack_packer_grow.l0]
    rcases Nat.lt_or_ge m 16 with h16 | h16
    · rw [bif_true (decide_eq_true (by omega)), gd_pos (by omega), w64_nat (x := (m : Int) + 1) (k := m + 1) (by simp) (by omega)]
      rcases Ks.at_step hat h16 with ⟨h0, hat'⟩ | ⟨t, r, rfl, h0, hat'⟩
      · rw [h0, bif_true (c := (0 : Int) == 0) rfl]
        simp only [Option.bind_some]
        exact grow_l0 ha fuel (m + 1) ks bk s (by omega) (by omega) hat' hb hok hli hre hu hl
      · have hlt := hli.1.lt
        have hpos := T.sz_pos t
        have hown := T.own_ge t
        have hle := T.own_le hok.1
        rw [h0, bif_false (c := (bk : Int) == 0) (by simp; omega), gd_pos (by omega), size_ok hli.1 hok.1]
        simp only [Option.bind_some]
        rw [w64_nat (x := ((t.own : Nat) : Int) - 3) (k := t.own - 3) (by omega) (by omega), w64_nat (x := (s.used : Int) + ((t.own - 3 : Nat) : Int)) (k := s.used + (t.own - 3)) (by omega) (by omega)]
        have hsl : s.nodes.length + s.tops.length ≤ bk := hl
        rw [Ks.grow]
        by_cases hc : 243 < s.used + (t.own - 3)
        · rw [bif_true (decide_eq_true (by omega)), gd_pos (by simp [ix]; omega), if_pos hc]
          simp only [Option.bind_some]
          have := grow_l0 ha fuel (m + 1) r (bk + t.sz) { s with tops := s.tops ++ [(bk, t)] } (by omega) (by omega) hat' (by omega) hok.2 hli.2 hre.2 hu (by simp only [Gs.len, List.length_append, List.length_singleton]; omega)
          simp only [ix_app] at this
          exact this
        · rw [bif_false (decide_eq_false (by omega)), if_neg hc]
          have h1 := hre.1 { s with used := s.used + (t.own - 3) } (by show s.used + (t.own - 3) ≤ 243; omega) hl
          rw [h1]
          simp only [Option.bind_some]
          have h2 := T.grow_len t bk { s with used := s.used + (t.own - 3) }
          have h3 : ({ s with used := s.used + (t.own - 3) } : Gs).len = s.len := rfl
          exact grow_l0 ha fuel (m + 1) r (bk + t.sz) _ (by omega) (by omega) hat' (by omega) hok.2 hli.2 hre.2 (h2.2 (by show s.used + (t.own - 3) ≤ 243; omega)) (by omega)
    · rw [bif_false (decide_eq_false (by omega))]
      have : ks = .nil := by
        cases ks with
        | nil => rfl
        | cons c t r =>
          obtain ⟨h1, h2, -⟩ := hat
          omega
      subst this
      simp [Ks.grow]
theorem Lies.kids {a : List Node} {b : Nat} {l : Lab} {ks : Ks} (h : Lies a b (.node l ks)) : ks.all (LL a) (b + 1) := by
  obtain ⟨pre, post, rfl, rfl⟩ := h
  have : ∀ (ks' : Ks) (pre' : List Node) (a' : List Node) (post' : List Node) (b' : Nat), a' = pre' ++ (ks'.flat b' ++ post') → pre'.length = b' → ks'.all (LL a') b' := by
    intro ks'
    induction ks' using Ks.rec (motive_1 := fun _ => True) with
    | node => trivial
    | nil => intros; trivial
    | cons c t ks' _ ih =>
      intro pre' a' post' b' h hb
      refine ⟨⟨pre', ks'.flat (b' + t.sz) ++ post', by rw [h, Ks.flat]; simp, hb⟩, ih (pre' ++ t.flat b') a' post' _ (by rw [h, Ks.flat]; simp) (by simp [hb, T.flat_len])⟩
  exact this ks (pre ++ [l.node (ks.vec (pre.length + 1) v0)]) _ post _ (by rw [T.flat]; simp) (by simp)
mutual
theorem T.growR {a : List Node} (ha : a.length ≤ 1000000000) {pp : List ByteArray} {sh : List Plan} : ∀ (t : T) (b kk : Nat), Lies a b t → t.ok → t.sz ≤ kk → GrowR a pp sh (pack_packer_grow.f kk) t b
  | .node l ks, b, 0, hli, hok, hk => by have := T.sz_pos (.node l ks); omega
  | .node l ks, b, kk + 1, hli, hok, hk => by
    intro s hu hl
    have hlt := hli.lt
    have hsz : (T.node l ks).sz = ks.sz + 1 := rfl
    have hsl : s.nodes.length + s.tops.length ≤ b := hl
    rw [pack_packer_grow.f, gd_pos (by simp [ix]; omega), gd_pos (by omega)]
    have hat : ks.at (b + 1) (gt a (b : Int)).kids_ 0 := by rw [hli.get]; exact Ks.at_vec0 hok.2.1
    have h := grow_l0 ha (pp := pp) (sh := sh) (f := b) (rc := pack_packer_grow.f kk) BIG 0 ks (b + 1) { s with nodes := s.nodes ++ [(b, .node l ks)] } (by have := BIG_ge; omega) (by omega) hat (by omega) hok.2.2 hli.kids (Ks.growR ha ks (b + 1) kk hli.kids hok.2.2 (by omega)) hu (by simp only [Gs.len, List.length_append, List.length_singleton]; omega)
    simp only [ix_app] at h
    rw [show ((0 : Nat) : Int) = 0 from rfl] at h
    have e : ix [(b, T.node l ks)] = [(b : Int)] := rfl
    rw [e] at h
    rw [h]
    rfl
theorem Ks.growR {a : List Node} (ha : a.length ≤ 1000000000) {pp : List ByteArray} {sh : List Plan} : ∀ (ks : Ks) (b kk : Nat), ks.all (LL a) b → ks.ok → ks.sz ≤ kk → ks.all (GrowR a pp sh (pack_packer_grow.f kk)) b
  | .nil, b, kk, _, _, _ => trivial
  | .cons c t ks, b, kk, hli, hok, hk => by
    have hsz : (Ks.cons c t ks).sz = t.sz + ks.sz := rfl
    exact ⟨T.growR ha t b kk hli.1 hok.1 (by omega), Ks.growR ha ks (b + t.sz) kk hli.2 hok.2 (by omega)⟩
end
end Go.Lf
