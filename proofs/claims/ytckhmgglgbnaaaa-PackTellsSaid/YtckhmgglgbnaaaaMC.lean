import Derived.Test.YtckhmgglgbnaaaaMA
/- How many bytes nodes have; how a sheet grows. -/
set_option linter.unusedVariables false
set_option linter.unusedSimpArgs false
namespace Go.Lf
open Go
theorem paths_ok {l : List Pair} (hm : MayP l) (hl : l.length < 10000) : trie_Paths.f (tri l) = some (trp l, true) := by
  unfold trie_Paths.f
  rw [walked_ok hm hl]
  rfl
def Ks.cnt : Ks → Nat
  | .nil => 0
  | .cons _ _ ks => ks.cnt + 1
def T.own : T → Nat
  | .node l ks => if l.kind = 3 then 4 + (if l.has then 1 + l.value.size else 0) + 3 * ks.cnt else if l.kind = 2 then 5 + (l.path.size + 1) / 2 else 3 + (l.path.size + 1) / 2 + l.value.size
def Lab.good (l : Lab) : Prop := l.path.size ≤ 16 ∧ Sml l.path ∧ l.value.size ≤ 16 ∧ (l.kind = 1 ∨ l.kind = 2 ∨ l.kind = 3)
mutual
def T.ok : T → Prop
  | .node l ks => l.good ∧ ks.up 0 ∧ ks.ok
def Ks.ok : Ks → Prop
  | .nil => True
  | .cons _ t ks => t.ok ∧ ks.ok
end
theorem Ks.cnt_le : ∀ {ks : Ks} {m : Nat}, ks.up m → m ≤ 16 → ks.cnt ≤ 16 - m
  | .nil, m, _, _ => by simp [Ks.cnt]
  | .cons c t ks, m, h, hm => by
    have := Ks.cnt_le h.2.2 (by have := h.2.1; omega)
    have := h.1
    have := h.2.1
    rw [Ks.cnt]
    omega
theorem T.own_ge (t : T) : 3 ≤ t.own := by
  obtain ⟨l, ks⟩ := t
  rw [T.own]
  split
  · omega
  · split <;> omega
theorem T.own_le {t : T} (h : t.ok) : t.own ≤ 69 := by
  obtain ⟨l, ks⟩ := t
  obtain ⟨⟨h1, h2, h3, h4⟩, h5, h6⟩ := h
  have := Ks.cnt_le h5 (by omega)
  rw [T.own]
  split
  · split <;> omega
  · split <;> omega
theorem psize_l0 {nd : Node} : ∀ (fuel m : Nat) (ks : Ks) (bk s : Nat), 16 - m < fuel → m ≤ 16 → ks.at bk nd.kids_ m → 0 < bk → s ≤ 100 + 3 * m → pack_size.l0 nd fuel (m, s) = some ((s + 3 * ks.cnt : Nat) : Int)
  | 0, m, ks, bk, s, h, _, _, _, _ => by omega
  | fuel + 1, m, ks, bk, s, h, hm, hat, hb, hs => by
    rw [pack_size.l0]
    rcases Nat.lt_or_ge m 16 with h16 | h16
    · rw [bif_true (decide_eq_true (by omega)), gd_pos (by omega), w64_nat (x := (m : Int) + 1) (k := m + 1) (by simp) (by omega)]
      rcases Ks.at_step hat h16 with ⟨h0, hat'⟩ | ⟨t, r, rfl, h0, hat'⟩
      · rw [h0, bif_false (c := (0 : Int) != 0) rfl, Option.bind_some]
        exact psize_l0 fuel (m + 1) ks bk s (by omega) (by omega) hat' hb (by omega)
      · rw [h0, bif_true (c := (bk : Int) != 0) (by simp; omega), Option.bind_some, w64_nat (x := (s : Int) + 3) (k := s + 3) (by simp) (by omega)]
        rw [psize_l0 fuel (m + 1) r (bk + t.sz) (s + 3) (by omega) (by omega) hat' (by omega) (by omega), Ks.cnt]
        congr 2
        omega
    · rw [bif_false (decide_eq_false (by omega))]
      have : ks = .nil := by
        cases ks with
        | nil => rfl
        | cons c t r =>
          obtain ⟨h1, h2, -⟩ := hat
          omega
      subst this
      simp [Ks.cnt]
theorem pgood_ok {s : ByteArray} (h1 : s.size ≤ 16) (h2 : Sml s) : nibble_Good.f s = some true := by
  unfold nibble_Good.f
  rw [bif_true (decide_eq_true (by omega))]
  rcases small_ok (s := s) (by omega) with ⟨-, h⟩ | ⟨h, -⟩
  · rw [h]; rfl
  · exact absurd h2 h
theorem pack_ok {s : ByteArray} (h1 : s.size ≤ 16) (h2 : Sml s) : nibble_Pack.f s = some (strOfNums [wu8 (s.size : Int)] ++ pck s, true) ∧ (strOfNums [wu8 (s.size : Int)] ++ pck s).size = 1 + (s.size + 1) / 2 := by
  have hsz : (pck s).size = (s.size + 1) / 2 := by rw [← B_len, B_pck h2, pk_len, B_len]
  constructor
  · unfold nibble_Pack.f
    rw [pgood_ok h1 h2, Option.bind_some, bif_false (c := !true) rfl, two_ok (by omega) h2, Option.bind_some, gd_pos (by rw [strOfNums_size, hsz]; simp; omega)]
  · rw [app_size, strOfNums_size, hsz]
    simp
/-- A tree stands in a list of nodes at a place. -/
def Lies (a : List Node) (b : Nat) (t : T) : Prop := ∃ pre post, a = pre ++ (t.flat b ++ post) ∧ pre.length = b
theorem Lies.get {a : List Node} {b : Nat} {l : Lab} {ks : Ks} (h : Lies a b (.node l ks)) : gt a (b : Int) = l.node (ks.vec (b + 1) v0) := by
  obtain ⟨pre, post, rfl, rfl⟩ := h
  rw [T.flat, List.cons_append]
  exact gt_end _ _ _
theorem Lies.lt {a : List Node} {b : Nat} {t : T} (h : Lies a b t) : b + t.sz ≤ a.length := by
  obtain ⟨pre, post, rfl, rfl⟩ := h
  simp [T.flat_len]
theorem size_ok {a : List Node} {b : Nat} {t : T} (h : Lies a b t) (hk : t.ok) : pack_size.f (gt a (b : Int)) = some ((t.own : Nat) : Int) := by
  obtain ⟨l, ks⟩ := t
  obtain ⟨⟨h1, h2, h3, h4⟩, h5, h6⟩ := hk
  rw [h.get]
  unfold pack_size.f
  have hat : ks.at (b + 1) (l.node (ks.vec (b + 1) v0)).kids_ 0 := Ks.at_vec0 h5
  have e1 : (l.node (ks.vec (b + 1) v0)).kind_ = l.kind := rfl
  have e2 : (l.node (ks.vec (b + 1) v0)).has_ = l.has := rfl
  have e3 : (l.node (ks.vec (b + 1) v0)).value_ = l.value := rfl
  have e4 : (l.node (ks.vec (b + 1) v0)).path_ = l.path := rfl
  rw [e1, e2, e3, e4, T.own]
  have hl : ∀ s : Nat, s ≤ 100 → pack_size.l0 (l.node (ks.vec (b + 1) v0)) BIG (0, (s : Int)) = some ((s + 3 * ks.cnt : Nat) : Int) := by
    intro s hs
    have := psize_l0 BIG 0 ks (b + 1) s (by have := BIG_ge; omega) (by omega) hat (by omega) (by omega)
    rwa [show ((0 : Nat) : Int) = 0 from rfl] at this
  by_cases hk : l.kind = 3
  · rw [bif_true (c := l.kind == 3) (by simp [hk]), if_pos hk]
    cases hh : l.has
    · rw [bif_false rfl, Option.bind_some, show (4 : Int) = ((4 : Nat) : Int) from rfl, hl 4 (by omega)]
      simp
    · rw [bif_true rfl, w64_nat (x := 1 + (l.value.size : Int)) (k := 1 + l.value.size) (by simp) (by omega), w64_nat (x := 4 + ((1 + l.value.size : Nat) : Int)) (k := 4 + (1 + l.value.size)) (by simp) (by omega), Option.bind_some, hl _ (by omega)]
      simp
  · rw [bif_false (c := l.kind == 3) (by simp [hk]), if_neg hk]
    obtain ⟨p1, p2⟩ := pack_ok h1 h2
    rw [p1]
    simp only [Option.bind_some, p2]
    by_cases hk2 : l.kind = 2
    · rw [bif_true (c := l.kind == 2) (by simp [hk2]), if_pos hk2, w64_nat (x := 1 + ((1 + (l.path.size + 1) / 2 : Nat) : Int)) (k := 2 + (l.path.size + 1) / 2) (by omega) (by omega), w64_nat (k := 5 + (l.path.size + 1) / 2) (by omega) (by omega)]
    · rw [bif_false (c := l.kind == 2) (by simp [hk2]), if_neg hk2, w64_nat (x := 1 + ((1 + (l.path.size + 1) / 2 : Nat) : Int)) (k := 2 + (l.path.size + 1) / 2) (by omega) (by omega), w64_nat (x := ((2 + (l.path.size + 1) / 2 : Nat) : Int) + 1) (k := 3 + (l.path.size + 1) / 2) (by omega) (by omega), w64_nat (k := 3 + (l.path.size + 1) / 2 + l.value.size) (by omega) (by omega)]
end Go.Lf
/- How a sheet grows. -/
set_option linter.unusedVariables false
set_option linter.unusedSimpArgs false
namespace Go.Lf
open Go
/-- A sheet that is made: its nodes, its bytes, and the tops that it leads to. -/
structure Gs where
  nodes : List (Nat × T)
  used : Nat
  tops : List (Nat × T)
mutual
def T.grow : T → Nat → Gs → Gs
  | .node l ks, b, s => ks.grow (b + 1) { s with nodes := s.nodes ++ [(b, .node l ks)] }
def Ks.grow : Ks → Nat → Gs → Gs
  | .nil, _, s => s
  | .cons _ t ks, b, s => ks.grow (b + t.sz) (if 243 < s.used + (t.own - 3) then { s with tops := s.tops ++ [(b, t)] } else t.grow b { s with used := s.used + (t.own - 3) })
end
def Gs.len (s : Gs) : Nat := s.nodes.length + s.tops.length
mutual
theorem T.grow_len : ∀ (t : T) (b : Nat) (s : Gs), (t.grow b s).len ≤ s.len + t.sz ∧ (s.used ≤ 243 → (t.grow b s).used ≤ 243)
  | .node l ks, b, s => by
    have := Ks.grow_len ks (b + 1) { s with nodes := s.nodes ++ [(b, .node l ks)] }
    simp only [Gs.len, List.length_append, List.length_singleton, T.grow, T.sz] at *
    exact ⟨by omega, this.2⟩
theorem Ks.grow_len : ∀ (ks : Ks) (b : Nat) (s : Gs), (ks.grow b s).len ≤ s.len + ks.sz ∧ (s.used ≤ 243 → (ks.grow b s).used ≤ 243)
  | .nil, b, s => ⟨by simp [Ks.grow], fun h => h⟩
  | .cons c t ks, b, s => by
    rw [Ks.grow, Ks.sz]
    have hp := T.sz_pos t
    split
    · have := Ks.grow_len ks (b + t.sz) { s with tops := s.tops ++ [(b, t)] }
      simp only [Gs.len, List.length_append, List.length_singleton] at *
      exact ⟨by omega, this.2⟩
    · have h1 := T.grow_len t b { s with used := s.used + (t.own - 3) }
      have h2 := Ks.grow_len ks (b + t.sz) (t.grow b { s with used := s.used + (t.own - 3) })
      simp only [Gs.len] at *
      exact ⟨by omega, fun h => h2.2 (h1.2 (by omega))⟩
end
def ix (x : List (Nat × T)) : List Int := x.map fun y => ((y.1 : Nat) : Int)
abbrev GRec := (List Node) → (List ByteArray) → (List Plan) → (List Int) → Int → (List Int) → Int → Option (Int × List Int × List Int)
def GrowR (a : List Node) (pp : List ByteArray) (sh : List Plan) (rc : GRec) (t : T) (b : Nat) : Prop :=
  ∀ s : Gs, s.used ≤ 243 → s.len ≤ b → rc a pp sh (ix s.nodes) (s.used : Int) (ix s.tops) (b : Int) = some (((t.grow b s).used : Int), ix (t.grow b s).nodes, ix (t.grow b s).tops)
def Ks.all (R : T → Nat → Prop) : Ks → Nat → Prop
  | .nil, _ => True
  | .cons _ t ks, b => R t b ∧ ks.all R (b + t.sz)
abbrev LL (a : List Node) : T → Nat → Prop := fun t b => Lies a b t
theorem ix_app (x y : List (Nat × T)) : ix (x ++ y) = ix x ++ ix y := by simp [ix]
theorem grow_l0 {a : List Node} (ha : a.length ≤ 1000000000) {pp : List ByteArray} {sh : List Plan} {f : Nat} {rc : GRec} :
    ∀ (fuel m : Nat) (ks : Ks) (bk : Nat) (s : Gs), 16 - m < fuel → m ≤ 16 → ks.at bk (gt a (f : Int)).kids_ m → 0 < bk → ks.ok → ks.all (LL a) bk → ks.all (GrowR a pp sh rc) bk → s.used ≤ 243 → s.len ≤ bk →
      pack_packer_grow.l0 a pp sh f rc fuel (ix s.nodes, ix s.tops, s.used, m) = some (ix (ks.grow bk s).nodes, ix (ks.grow bk s).tops, ((ks.grow bk s).used : Int))
  | 0, m, ks, bk, s, h, _, _, _, _, _, _, _, _ => by omega
  | fuel + 1, m, ks, bk, s, h, hm, hat, hb, hok, hli, hre, hu, hl => by
    rw [pack_packer_grow.l0]
    rcases Nat.lt_or_ge m 16 with h16 | h16
    · rw [bif_true (decide_eq_true (by omega)), gd_pos (by omega), w64_nat (x := (m : Int) + 1) (k := m + 1) (by simp) (by omega)]
      rcases Ks.at_step hat h16 with ⟨h0, hat'⟩ | ⟨t, r, rfl, h0, hat'⟩
      · rw [h0, bif_true (c := (0 : Int) == 0) rfl]
        simp only [Option.bind_some]
        exact grow_l0 ha fuel (m + 1) ks bk s (by omega) (by omega) hat' hb hok hli hre hu hl
      · have hlt := hli.1.lt
        have hpos := T.sz_pos t
        have hown := T.own_ge t
        have hle := T.own_le hok.1
        rw [h0, bif_false (c := (bk : Int) == 0) (by simp; omega), gd_pos (by omega), size_ok hli.1 hok.1]
        simp only [Option.bind_some]
        rw [w64_nat (x := ((t.own : Nat) : Int) - 3) (k := t.own - 3) (by omega) (by omega), w64_nat (x := (s.used : Int) + ((t.own - 3 : Nat) : Int)) (k := s.used + (t.own - 3)) (by omega) (by omega)]
        have hsl : s.nodes.length + s.tops.length ≤ bk := hl
        rw [Ks.grow]
        by_cases hc : 243 < s.used + (t.own - 3)
        · rw [bif_true (decide_eq_true (by omega)), gd_pos (by simp [ix]; omega), if_pos hc]
          simp only [Option.bind_some]
          have := grow_l0 ha fuel (m + 1) r (bk + t.sz) { s with tops := s.tops ++ [(bk, t)] } (by omega) (by omega) hat' (by omega) hok.2 hli.2 hre.2 hu (by simp only [Gs.len, List.length_append, List.length_singleton]; omega)
          simp only [ix_app] at this
          exact this
        · rw [bif_false (decide_eq_false (by omega)), if_neg hc]
          have h1 := hre.1 { s with used := s.used + (t.own - 3) } (by show s.used + (t.own - 3) ≤ 243; omega) hl
          rw [h1]
          simp only [Option.bind_some]
          have h2 := T.grow_len t bk { s with used := s.used + (t.own - 3) }
          have h3 : ({ s with used := s.used + (t.own - 3) } : Gs).len = s.len := rfl
          exact grow_l0 ha fuel (m + 1) r (bk + t.sz) _ (by omega) (by omega) hat' (by omega) hok.2 hli.2 hre.2 (h2.2 (by show s.used + (t.own - 3) ≤ 243; omega)) (by omega)
    · rw [bif_false (decide_eq_false (by omega))]
      have : ks = .nil := by
        cases ks with
        | nil => rfl
        | cons c t r =>
          obtain ⟨h1, h2, -⟩ := hat
          omega
      subst this
      simp [Ks.grow]
theorem Lies.kids {a : List Node} {b : Nat} {l : Lab} {ks : Ks} (h : Lies a b (.node l ks)) : ks.all (LL a) (b + 1) := by
  obtain ⟨pre, post, rfl, rfl⟩ := h
  have : ∀ (ks' : Ks) (pre' : List Node) (a' : List Node) (post' : List Node) (b' : Nat), a' = pre' ++ (ks'.flat b' ++ post') → pre'.length = b' → ks'.all (LL a') b' := by
    intro ks'
    induction ks' using Ks.rec (motive_1 := fun _ => True) with
    | node => trivial
    | nil => intros; trivial
    | cons c t ks' _ ih =>
      intro pre' a' post' b' h hb
      refine ⟨⟨pre', ks'.flat (b' + t.sz) ++ post', by rw [h, Ks.flat]; simp, hb⟩, ih (pre' ++ t.flat b') a' post' _ (by rw [h, Ks.flat]; simp) (by simp [hb, T.flat_len])⟩
  exact this ks (pre ++ [l.node (ks.vec (pre.length + 1) v0)]) _ post _ (by rw [T.flat]; simp) (by simp)
mutual
theorem T.growR {a : List Node} (ha : a.length ≤ 1000000000) {pp : List ByteArray} {sh : List Plan} : ∀ (t : T) (b kk : Nat), Lies a b t → t.ok → t.sz ≤ kk → GrowR a pp sh (pack_packer_grow.f kk) t b
  | .node l ks, b, 0, hli, hok, hk => by have := T.sz_pos (.node l ks); omega
  | .node l ks, b, kk + 1, hli, hok, hk => by
    intro s hu hl
    have hlt := hli.lt
    have hsz : (T.node l ks).sz = ks.sz + 1 := rfl
    have hsl : s.nodes.length + s.tops.length ≤ b := hl
    rw [pack_packer_grow.f, gd_pos (by simp [ix]; omega), gd_pos (by omega)]
    have hat : ks.at (b + 1) (gt a (b : Int)).kids_ 0 := by rw [hli.get]; exact Ks.at_vec0 hok.2.1
    have h := grow_l0 ha (pp := pp) (sh := sh) (f := b) (rc := pack_packer_grow.f kk) BIG 0 ks (b + 1) { s with nodes := s.nodes ++ [(b, .node l ks)] } (by have := BIG_ge; omega) (by omega) hat (by omega) hok.2.2 hli.kids (Ks.growR ha ks (b + 1) kk hli.kids hok.2.2 (by omega)) hu (by simp only [Gs.len, List.length_append, List.length_singleton]; omega)
    simp only [ix_app] at h
    rw [show ((0 : Nat) : Int) = 0 from rfl] at h
    have e : ix [(b, T.node l ks)] = [(b : Int)] := rfl
    rw [e] at h
    rw [h]
    rfl
theorem Ks.growR {a : List Node} (ha : a.length ≤ 1000000000) {pp : List ByteArray} {sh : List Plan} : ∀ (ks : Ks) (b kk : Nat), ks.all (LL a) b → ks.ok → ks.sz ≤ kk → ks.all (GrowR a pp sh (pack_packer_grow.f kk)) b
  | .nil, b, kk, _, _, _ => trivial
  | .cons c t ks, b, kk, hli, hok, hk => by
    have hsz : (Ks.cons c t ks).sz = t.sz + ks.sz := rfl
    exact ⟨T.growR ha t b kk hli.1 hok.1 (by omega), Ks.growR ha ks (b + t.sz) kk hli.2 hok.2 (by omega)⟩
end
end Go.Lf
/- A trie's sheets. -/
set_option linter.unusedVariables false
set_option linter.unusedSimpArgs false
namespace Go.Lf
open Go
mutual
def T.tot : T → Nat
  | .node l ks => (T.node l ks).own + ks.tot
def Ks.tot : Ks → Nat
  | .nil => 0
  | .cons _ t ks => t.tot + ks.tot
end
def szs : List (Nat × T) → Nat
  | [] => 0
  | x :: r => x.2.sz + szs r
def tots : List (Nat × T) → Nat
  | [] => 0
  | x :: r => x.2.tot + tots r
def ows : List (Nat × T) → Nat
  | [] => 0
  | x :: r => x.2.own + ows r
theorem szs_app : ∀ x y, szs (x ++ y) = szs x + szs y
  | [], y => by simp [szs]
  | a :: x, y => by simp [szs, szs_app x y, Nat.add_assoc]
theorem tots_app : ∀ x y, tots (x ++ y) = tots x + tots y
  | [], y => by simp [tots]
  | a :: x, y => by simp [tots, tots_app x y, Nat.add_assoc]
theorem ows_app : ∀ x y, ows (x ++ y) = ows x + ows y
  | [], y => by simp [ows]
  | a :: x, y => by simp [ows, ows_app x y, Nat.add_assoc]
mutual
theorem T.grow_sum : ∀ (t : T) (b : Nat) (s : Gs), (t.grow b s).nodes.length + szs (t.grow b s).tops = s.nodes.length + szs s.tops + t.sz ∧ ows (t.grow b s).nodes + tots (t.grow b s).tops = ows s.nodes + tots s.tops + t.tot ∧
      (t.grow b s).used + 3 * (t.grow b s).nodes.length + ows s.nodes + t.own = s.used + 3 * s.nodes.length + ows (t.grow b s).nodes + 3
  | .node l ks, b, s => by
    obtain ⟨h1, h2, h3⟩ := Ks.grow_sum ks (b + 1) { s with nodes := s.nodes ++ [(b, .node l ks)] }
    simp only [List.length_append, List.length_singleton, ows_app, ows, T.grow, T.sz, T.tot] at *
    omega
theorem Ks.grow_sum : ∀ (ks : Ks) (b : Nat) (s : Gs), (ks.grow b s).nodes.length + szs (ks.grow b s).tops = s.nodes.length + szs s.tops + ks.sz ∧ ows (ks.grow b s).nodes + tots (ks.grow b s).tops = ows s.nodes + tots s.tops + ks.tot ∧
      (ks.grow b s).used + 3 * (ks.grow b s).nodes.length + ows s.nodes = s.used + 3 * s.nodes.length + ows (ks.grow b s).nodes
  | .nil, b, s => by simp [Ks.grow, Ks.sz, Ks.tot]
  | .cons c t ks, b, s => by
    have ho := T.own_ge t
    rw [Ks.grow, Ks.sz, Ks.tot]
    split
    · obtain ⟨h1, h2, h3⟩ := Ks.grow_sum ks (b + t.sz) { s with tops := s.tops ++ [(b, t)] }
      simp only [szs_app, tots_app, szs, tots] at *
      omega
    · obtain ⟨g1, g2, g3⟩ := T.grow_sum t b { s with used := s.used + (t.own - 3) }
      obtain ⟨h1, h2, h3⟩ := Ks.grow_sum ks (b + t.sz) (t.grow b { s with used := s.used + (t.own - 3) })
      simp only at *
      omega
end
/-- Trees that stand in a list of nodes. -/
def Sts (a : List Node) (x : List (Nat × T)) : Prop := ∀ y ∈ x, Lies a y.1 y.2 ∧ y.2.ok
theorem Sts.app {a : List Node} {x y : List (Nat × T)} (h : Sts a x) (h' : Sts a y) : Sts a (x ++ y) := fun z hz => by
  rcases List.mem_append.mp hz with hz | hz
  · exact h z hz
  · exact h' z hz
mutual
theorem T.grow_sts {a : List Node} : ∀ (t : T) (b : Nat) (s : Gs), Lies a b t → t.ok → Sts a s.nodes → Sts a s.tops → Sts a (t.grow b s).nodes ∧ Sts a (t.grow b s).tops
  | .node l ks, b, s, hl, ho, h1, h2 => by
    rw [T.grow]
    exact Ks.grow_sts ks (b + 1) _ hl.kids ho.2.2 (h1.app fun y hy => by simp at hy; subst hy; exact ⟨hl, ho⟩) h2
theorem Ks.grow_sts {a : List Node} : ∀ (ks : Ks) (b : Nat) (s : Gs), ks.all (LL a) b → ks.ok → Sts a s.nodes → Sts a s.tops → Sts a (ks.grow b s).nodes ∧ Sts a (ks.grow b s).tops
  | .nil, b, s, _, _, h1, h2 => ⟨h1, h2⟩
  | .cons c t ks, b, s, hl, ho, h1, h2 => by
    rw [Ks.grow]
    split
    · exact Ks.grow_sts ks _ _ hl.2 ho.2 h1 (h2.app fun y hy => by simp at hy; subst hy; exact ⟨hl.1, ho.1⟩)
    · obtain ⟨g1, g2⟩ := T.grow_sts t b { s with used := s.used + (t.own - 3) } hl.1 ho.1 h1 h2
      exact Ks.grow_sts ks _ _ hl.2 ho.2 g1 g2
end
def gr (t : T) (b : Nat) : Gs := t.grow b ⟨[], t.own, []⟩
/-- i is the place of one of these children. -/
def Ks.kid : Ks → Nat → Nat → Prop
  | .nil, _, _ => False
  | .cons _ t ks, b, i => i = b ∨ ks.kid (b + t.sz) i
def Par (y : Nat × T) (i : Nat) : Prop := match y.2 with | .node l ks => ∃ c : Nat, c < 16 ∧ vg (ks.vec (y.1 + 1) v0) (c : Int) = (i : Int)
theorem Ks.kid_at : ∀ {ks : Ks} {b m i : Nat} {v : V16}, ks.kid b i → ks.at b v m → ∃ c : Nat, c < 16 ∧ vg v (c : Int) = (i : Int)
  | .nil, b, m, i, v, h, _ => h.elim
  | .cons c t ks, b, m, i, v, h, ha => by
    obtain ⟨h1, h2, h3, h4, h5⟩ := ha
    rcases h with rfl | h
    · exact ⟨c, h2, h4⟩
    · exact Ks.kid_at h h5
def Asc (lo hi : Nat) (N : List (Nat × T)) : Prop := N.Pairwise (fun x y => x.1 < y.1) ∧ ∀ x ∈ N, lo ≤ x.1 ∧ x.1 < hi
theorem Asc.app {lo mid hi : Nat} {x y : List (Nat × T)} (h : Asc lo mid x) (h' : Asc mid hi y) (h1 : lo ≤ mid) (h2 : mid ≤ hi) : Asc lo hi (x ++ y) := by
  refine ⟨List.pairwise_append.mpr ⟨h.1, h'.1, fun a ha b hb => ?_⟩, fun z hz => ?_⟩
  · have := (h.2 a ha).2
    have := (h'.2 b hb).1
    omega
  · rcases List.mem_append.mp hz with hz | hz
    · have := h.2 z hz; omega
    · have := h'.2 z hz; omega
mutual
theorem T.grow_nodes : ∀ (t : T) (b : Nat) (s : Gs), t.ok → ∃ N, (t.grow b s).nodes = s.nodes ++ (b, t) :: N ∧ Asc (b + 1) (b + t.sz) N ∧ ∀ x ∈ N, ∃ y ∈ (b, t) :: N, Par y x.1
  | .node l ks, b, s, ho => by
    obtain ⟨N, h1, h2, h3⟩ := Ks.grow_nodes ks (b + 1) { s with nodes := s.nodes ++ [(b, .node l ks)] } ho.2.2
    refine ⟨N, by rw [T.grow, h1]; simp, ?_, fun x hx => ?_⟩
    · rw [T.sz, show b + (ks.sz + 1) = b + 1 + ks.sz by omega]
      exact h2
    · rcases h3 x hx with h | ⟨y, hy, hp⟩
      · exact ⟨(b, .node l ks), by simp, Ks.kid_at h (Ks.at_vec0 ho.2.1)⟩
      · exact ⟨y, by simp [hy], hp⟩
theorem Ks.grow_nodes : ∀ (ks : Ks) (b : Nat) (s : Gs), ks.ok → ∃ N, (ks.grow b s).nodes = s.nodes ++ N ∧ Asc b (b + ks.sz) N ∧ ∀ x ∈ N, ks.kid b x.1 ∨ ∃ y ∈ N, Par y x.1
  | .nil, b, s, _ => ⟨[], by simp [Ks.grow], ⟨List.Pairwise.nil, by simp⟩, by simp⟩
  | .cons c t ks, b, s, ho => by
    have hp := T.sz_pos t
    rw [Ks.grow, Ks.sz]
    split
    · obtain ⟨N, h1, h2, h3⟩ := Ks.grow_nodes ks (b + t.sz) { s with tops := s.tops ++ [(b, t)] } ho.2
      refine ⟨N, h1, ⟨h2.1, fun x hx => by have := h2.2 x hx; omega⟩, fun x hx => ?_⟩
      rcases h3 x hx with h | h
      · exact .inl (.inr h)
      · exact .inr h
    · obtain ⟨M, g1, g2, g3⟩ := T.grow_nodes t b { s with used := s.used + (t.own - 3) } ho.1
      obtain ⟨N, h1, h2, h3⟩ := Ks.grow_nodes ks (b + t.sz) (t.grow b { s with used := s.used + (t.own - 3) }) ho.2
      refine ⟨(b, t) :: M ++ N, by rw [h1, g1]; simp, ?_, fun x hx => ?_⟩
      · rw [← Nat.add_assoc]
        refine Asc.app (mid := b + t.sz) ⟨List.pairwise_cons.mpr ⟨fun y hy => ?_, g2.1⟩, fun y hy => ?_⟩ h2 (by omega) (by omega)
        · have := g2.2 y hy; show b < y.1; omega
        · rcases List.mem_cons.mp hy with rfl | hy
          · show b ≤ b ∧ b < b + t.sz; omega
          · have := g2.2 y hy; omega
      · rcases List.mem_append.mp hx with hx | hx
        · rcases List.mem_cons.mp hx with rfl | hx
          · exact .inl (.inl rfl)
          · obtain ⟨y, hy, hpar⟩ := g3 x hx
            exact .inr ⟨y, List.mem_append_left _ hy, hpar⟩
        · rcases h3 x hx with h | ⟨y, hy, hpar⟩
          · exact .inl (.inr h)
          · exact .inr ⟨y, List.mem_append_right _ hy, hpar⟩
end
theorem gr_nodes {t : T} {b : Nat} (ho : t.ok) : ∃ N, (gr t b).nodes = (b, t) :: N ∧ Asc (b + 1) (b + t.sz) N ∧ ∀ x ∈ N, ∃ y ∈ (b, t) :: N, Par y x.1 := by
  obtain ⟨N, h1, h2⟩ := T.grow_nodes t b ⟨[], t.own, []⟩ ho
  exact ⟨N, by unfold gr; rw [h1]; rfl, h2⟩
def shL (rc : T → Nat → Nat → List Plan) : List (Nat × T) → Nat → List Int × List Plan
  | [], _ => ([], [])
  | x :: r, nx => ((nx : Int) :: (shL rc r (nx + (rc x.2 x.1 nx).length)).1, rc x.2 x.1 nx ++ (shL rc r (nx + (rc x.2 x.1 nx).length)).2)
/-- The sheets of a tree that stands at b; the first is number me. -/
def shs (pp : List ByteArray) : Nat → T → Nat → Nat → List Plan
  | 0, _, _, _ => []
  | k + 1, t, b, me => ⟨tx pp b, (b : Int), ix (gr t b).nodes, (shL (shs pp k) (gr t b).tops (me + 1)).1⟩ :: (shL (shs pp k) (gr t b).tops (me + 1)).2
theorem shL_len {rc : T → Nat → Nat → List Plan} (h : ∀ t b me, (rc t b me).length ≤ t.sz) : ∀ (x : List (Nat × T)) (nx : Nat), (shL rc x nx).2.length ≤ szs x ∧ (shL rc x nx).1.length = x.length
  | [], nx => ⟨Nat.le_refl _, rfl⟩
  | x :: r, nx => by
    obtain ⟨h1, h2⟩ := shL_len h r (nx + (rc x.2 x.1 nx).length)
    have := h x.2 x.1 nx
    simp only [shL, List.length_append, List.length_cons, szs]
    omega
theorem gr_tops {t : T} {b : Nat} (ho : t.ok) : szs (gr t b).tops + 1 ≤ t.sz := by
  obtain ⟨h2, -, -⟩ := T.grow_sum t b ⟨[], t.own, []⟩
  obtain ⟨N, h1, -⟩ := gr_nodes (b := b) ho
  unfold gr at *
  rw [h1] at h2
  simp only [List.length_cons, List.length_nil, szs] at h2
  omega
theorem gr_sts {a : List Node} {t : T} {b : Nat} (hl : Lies a b t) (ho : t.ok) : Sts a (gr t b).nodes ∧ Sts a (gr t b).tops := T.grow_sts t b _ hl ho (by simp [Sts]) (by simp [Sts])
theorem shL_len' {rc : T → Nat → Nat → List Plan} {a : List Node} (h : ∀ t b me, t.ok → (rc t b me).length ≤ t.sz) : ∀ (x : List (Nat × T)) (nx : Nat), Sts a x → (shL rc x nx).2.length ≤ szs x ∧ (shL rc x nx).1.length = x.length
  | [], nx, _ => ⟨Nat.le_refl _, rfl⟩
  | x :: r, nx, hs => by
    obtain ⟨h1, h2⟩ := shL_len' h r (nx + (rc x.2 x.1 nx).length) (fun y hy => hs y (List.mem_cons_of_mem _ hy))
    have := h x.2 x.1 nx (hs x (List.mem_cons_self ..)).2
    simp only [shL, List.length_append, List.length_cons, szs]
    omega
end Go.Lf
/- The program makes the sheets. -/
set_option linter.unusedVariables false
set_option linter.unusedSimpArgs false
namespace Go.Lf
open Go
theorem shL_le {rc : T → Nat → Nat → List Plan} {a : List Node} (h : ∀ t b me, Lies a b t → t.ok → (rc t b me).length ≤ t.sz) : ∀ (x : List (Nat × T)) (nx : Nat), Sts a x → (shL rc x nx).2.length ≤ szs x
  | [], nx, _ => Nat.le_refl _
  | x :: r, nx, hs => by
    have h1 := shL_le h r (nx + (rc x.2 x.1 nx).length) (fun y hy => hs y (List.mem_cons_of_mem _ hy))
    obtain ⟨l1, l2⟩ := hs x (List.mem_cons_self ..)
    have := h x.2 x.1 nx l1 l2
    simp only [shL, List.length_append, szs]
    omega
theorem shs_le {a : List Node} (pp : List ByteArray) : ∀ (k : Nat) (t : T) (b me : Nat), Lies a b t → t.ok → (shs pp k t b me).length ≤ t.sz
  | 0, t, b, me, _, _ => Nat.zero_le _
  | k + 1, t, b, me, hl, ho => by
    have h1 := shL_le (a := a) (shs_le pp k) (gr t b).tops (me + 1) (gr_sts hl ho).2
    have h2 := gr_tops (b := b) ho
    simp only [shs, List.length_cons]
    omega
theorem sheet_l0 {a : List Node} {pp : List ByteArray} {tops : List (Nat × T)} {rc : (List Node) → (List ByteArray) → (List Plan) → Int → Option (Int × List Plan)} {R : T → Nat → Nat → List Plan} (hs : Sts a tops)
    (hR : ∀ t b me, Lies a b t → t.ok → (R t b me).length ≤ t.sz)
    (hrc : ∀ x ∈ tops, ∀ sh : List Plan, sh.length + x.2.sz ≤ 1000000000 → rc a pp sh (x.1 : Int) = some ((sh.length : Int), sh ++ R x.2 x.1 sh.length)) (hn : tops.length ≤ 1000000000) :
    ∀ (fuel j : Nat) (kids : List Int) (sh : List Plan), tops.length - j < fuel → j ≤ tops.length → kids.length = j → sh.length + szs (tops.drop j) ≤ 1000000000 →
      pack_packer_sheet.l0 a pp (ix tops) rc fuel (kids, sh, j) = some (kids ++ (shL R (tops.drop j) sh.length).1, sh ++ (shL R (tops.drop j) sh.length).2)
  | 0, j, kids, sh, h, _, _, _ => by omega
  | fuel + 1, j, kids, sh, h, hj, hk, hz => by
    rw [pack_packer_sheet.l0]
    have hil : (ix tops).length = tops.length := by simp [ix]
    rcases Nat.lt_or_ge j tops.length with hlt | hge
    · have hx : gt (ix tops) (j : Int) = ((tops.getD j default).1 : Int) := by
        simp [gt, ix, List.getD_eq_getElem?_getD, List.getElem?_eq_getElem hlt]
      have hmem : tops.getD j default ∈ tops := by
        rw [List.getD_eq_getElem?_getD, List.getElem?_eq_getElem hlt]
        exact List.getElem_mem hlt
      rw [drop_cons default hlt] at hz ⊢
      simp only [szs] at hz
      obtain ⟨l1, l2⟩ := hs _ hmem
      have hle := hR _ _ sh.length l1 l2
      rw [bif_true (decide_eq_true (by omega)), gd_pos (by omega), hx, hrc _ hmem sh (by omega)]
      simp only [Option.bind_some]
      rw [gd_pos (by omega), w64_nat (x := (j : Int) + 1) (k := j + 1) (by simp) (by omega)]
      rw [sheet_l0 hs hR hrc hn fuel (j + 1) _ _ (by omega) (by omega) (by simp; omega) (by simp only [List.length_append]; omega)]
      simp [shL]
    · rw [bif_false (decide_eq_false (by omega)), List.drop_eq_nil_of_le hge]
      simp [shL]
theorem ix_len (x : List (Nat × T)) : (ix x).length = x.length := by simp [ix]
theorem len_le_szs : ∀ x : List (Nat × T), x.length ≤ szs x
  | [] => Nat.le_refl _
  | y :: x => by
    have := len_le_szs x
    have := T.sz_pos y.2
    simp only [List.length_cons, szs]
    omega
theorem szs_mem : ∀ {x : List (Nat × T)} {y : Nat × T}, y ∈ x → y.2.sz ≤ szs x
  | z :: x, y, h => by
    rw [szs]
    rcases List.mem_cons.mp h with rfl | h
    · omega
    · have := szs_mem h; omega
theorem sheet_ok {a : List Node} (ha : a.length ≤ 1000000) {pp : List ByteArray} (hp : pp.length = a.length) : ∀ (k kk : Nat) (t : T) (b : Nat) (sh : List Plan), Lies a b t → t.ok → t.sz ≤ k → k ≤ kk → sh.length + t.sz ≤ 1000000000 →
    pack_packer_sheet.f kk a pp sh (b : Int) = some ((sh.length : Int), sh ++ shs pp k t b sh.length)
  | 0, kk, t, b, sh, hl, ho, hk, _, _ => by have := T.sz_pos t; omega
  | k + 1, 0, t, b, sh, hl, ho, hk, hkk, _ => by omega
  | k + 1, kk + 1, t, b, sh, hl, ho, hk, hkk, hsh => by
    have hlt := hl.lt
    have hpos := T.sz_pos t
    have hown := T.own_le ho
    have htops := gr_tops (b := b) ho
    obtain ⟨hs1, hs2⟩ := gr_sts hl ho
    rw [pack_packer_sheet.f, gd_pos (by omega), size_ok hl ho, Option.bind_some]
    have hg := T.growR (by omega) (pp := pp) (sh := sh) t b BIG hl ho (by have := BIG_ge; omega) ⟨[], t.own, []⟩ (by show t.own ≤ 243; omega) (Nat.zero_le _)
    have hg' : pack_packer_grow.f BIG a pp sh ([] : List Int) ((t.own : Nat) : Int) ([] : List Int) (b : Int) = some (((gr t b).used : Int), ix (gr t b).nodes, ix (gr t b).tops) := hg
    rw [hg']
    simp only [Option.bind_some]
    have hz := len_le_szs (gr t b).tops
    rw [gd_pos (by omega), gd_pos (by omega)]
    have h := sheet_l0 hs2 (R := shs pp k) (shs_le pp k) (rc := pack_packer_sheet.f kk) (pp := pp) (fun x hx sh hsz => sheet_ok ha hp k kk x.2 x.1 sh (hs2 x hx).1 (hs2 x hx).2 (by have := szs_mem hx; omega) (by omega) hsz) (by omega) BIG 0 [] (sh ++ [⟨⟨#[]⟩, 0, [], []⟩]) (by have := BIG_ge; omega) (Nat.zero_le _) rfl (by simp only [List.length_append, List.length_singleton, List.drop_zero]; omega)
    rw [show ((0 : Nat) : Int) = 0 from rfl] at h
    rw [h]
    simp only [Option.bind_some, List.nil_append, List.drop_zero, List.append_assoc, List.singleton_append, List.length_append, List.length_singleton]
    rw [gd_pos (by simp; omega), set_end]
    simp only [shs, tx_gt]
end Go.Lf
/- The sheets of the trie of pairs. -/
set_option linter.unusedVariables false
set_option linter.unusedSimpArgs false
namespace Go.Lf
open Go
variable {n : List ByteArray} {l : List Pair}
theorem sml_sub {s : ByteArray} (h : Sml s) (i j : Int) : Sml (sub s i j) := by
  intro b hb
  rw [B_sub] at hb
  exact h b (List.mem_of_mem_take (List.mem_of_mem_drop hb))
theorem sub_le (s : ByteArray) (i j : Int) : (sub s i j).size ≤ s.size := by
  rw [← B_len, B_sub, List.length_drop, List.length_take, B_len]
  omega
theorem sml_nil : Sml (⟨#[]⟩ : ByteArray) := by
  intro b hb
  rw [B_empty] at hb
  cases hb
theorem nil16 : (⟨#[]⟩ : ByteArray).size ≤ 16 := by decide
theorem mkKs_ok {g : Nat → Nat → T} {d t : Nat} (hg : ∀ i, i < t → (g i (run n d t i)).ok) : ∀ m i, (mkKs n g d t m i).ok
  | 0, i => trivial
  | m + 1, i => by
    unfold mkKs
    split
    · rename_i h
      exact ⟨hg i h, mkKs_ok hg m _⟩
    · trivial
theorem mkKs_ok' (hI : In n l) {f t d : Nat} (hR : Rg n f t d) {g : Nat → Nat → T} (hg : ∀ i j, Rg n i j (d + 1) → (g i j).ok) : ∀ m i, (f < i ∨ d < (nb n f).length ∧ f ≤ i) → (mkKs n g d t m i).ok
  | 0, i, _ => trivial
  | m + 1, i, hi => by
    unfold mkKs
    split
    · rename_i h
      have hgt := run_gt (n := n) (d := d) h
      exact ⟨hg _ _ (hR.run hI.srt hi h), mkKs_ok' hI hR hg m _ (by omega)⟩
    · trivial
theorem mk_ok (hI : In n l) (hE : Evn n) (hv : ∀ i, i < n.length → (val l i).size ≤ 16) : ∀ (k f t d : Nat), Rg n f t d → 17 ≤ d + k → (mk n l k f t d).ok
  | 0, f, t, d, hR, hd => by
    have := hI.short f (by have := hR.lt; have := hR.le; omega)
    have := hR.long f (Nat.le_refl _) hR.lt
    omega
  | k + 1, f, t, d, hR, hd => by
    have hlt := hR.lt
    have hle := hR.le
    have hsh := hI.short f (by omega)
    have hsz : (tx n f).size ≤ 16 := by rw [size_nb]; exact hsh
    have hlt16 : ∀ i, i < t → byteAt n i d < 16 := fun i hi => hI.nib i (by omega) d
    obtain ⟨-, hsm⟩ := hE f (by omega)
    rw [mk]
    by_cases h1 : t = f + 1
    · rw [if_pos h1]
      exact ⟨⟨Nat.le_trans (sub_le _ _ _) hsz, sml_sub hsm _ _, hv f (by omega), .inl rfl⟩, trivial, trivial⟩
    · rw [if_neg h1]
      by_cases h2 : 0 < comm ((nb n f).drop d) ((nb n (t - 1)).drop d)
      · rw [if_pos h2]
        refine ⟨⟨Nat.le_trans (sub_le _ _ _) hsz, sml_sub hsm _ _, nil16, .inr (.inl rfl)⟩, ⟨by omega, by omega, trivial⟩, mk_ok hI hE hv k f t _ (hR.comm hI.srt) (by omega), trivial⟩
      · rw [if_neg h2]
        have hg : ∀ i j, Rg n i j (d + 1) → (mk n l k i j (d + 1)).ok := fun i j h => mk_ok hI hE hv k i j (d + 1) h (by omega)
        by_cases h3 : (nb n f).length = d
        · rw [if_pos h3]
          exact ⟨⟨nil16, sml_nil, hv f (by omega), .inr (.inr rfl)⟩, mkKs_up hI.srt hR _ hlt16 _ _ (by omega) _ (fun _ => Nat.zero_le _), mkKs_ok' hI hR hg _ _ (by omega)⟩
        · rw [if_neg h3]
          have := hR.long f (Nat.le_refl _) hlt
          exact ⟨⟨nil16, sml_nil, nil16, .inr (.inr rfl)⟩, mkKs_up hI.srt hR _ hlt16 _ _ (by omega) _ (fun _ => Nat.zero_le _), mkKs_ok' hI hR hg _ _ (by omega)⟩
theorem tre_ok (hm : MayP l) (hl : l.length < 1000000) (h0 : 0 < l.length) : (tre l).ok := by
  have hlen : (nibs l).length = l.length := by simp [nibs]
  exact mk_ok (in_nibs hm hl) evn_nibs (fun i hi => (hm i (by omega)).2.2.1) 17 0 l.length 0 (rg0 hm h0) (by omega)
theorem tre_lies (h0 : 0 < l.length) : Lies (tri l) 0 (tre l) := by
  have he : l ≠ [] := List.length_pos_iff.mp h0
  refine ⟨[], [], ?_, rfl⟩
  rw [tri, if_neg he]
  simp
/-- The sheets of the trie of pairs. -/
def sheets (l : List Pair) : List Plan := if l = [] then [] else shs (trp l) (tre l).sz (tre l) 0 0
theorem trp_len : (trp l).length = (tri l).length := by
  unfold trp tri
  split
  · rfl
  · rw [T.paths_len, T.flat_len]
theorem Of_ok (hm : MayP l) (hl : l.length < 10000) : pack_Of.f (tri l) = some (sheets l, true) := by
  unfold pack_Of.f
  rw [paths_ok hm hl]
  simp only [Option.bind_some]
  rw [bif_false (c := !true) rfl]
  by_cases he : l = []
  · subst he
    rfl
  · have h0 : 0 < l.length := List.length_pos_iff.mpr he
    have hsz := tre_sz (by omega) h0
    have hlen := tri_len h0
    have hpos := T.sz_pos (tre l)
    have h := sheet_ok (a := tri l) (by omega) trp_len (tre l).sz BIG (tre l) 0 [] (tre_lies h0) (tre_ok hm (by omega) h0) (Nat.le_refl _) (by have := BIG_ge; omega) (by simp; omega)
    rw [show ((0 : Nat) : Int) = 0 from rfl] at h
    rw [bif_true (decide_eq_true (by omega)), h]
    simp [sheets, he]
mutual
/-- All nodes' bytes, in preorder. -/
def T.owns : T → List Nat
  | .node l ks => (T.node l ks).own :: ks.owns
def Ks.owns : Ks → List Nat
  | .nil => []
  | .cons _ t ks => t.owns ++ ks.owns
end
mutual
theorem T.owns_len : ∀ t : T, t.owns.length = t.sz ∧ t.owns.sum = t.tot
  | .node l ks => by
    have := Ks.owns_len ks
    simp only [T.owns, T.sz, T.tot, List.length_cons, List.sum_cons]
    omega
theorem Ks.owns_len : ∀ ks : Ks, ks.owns.length = ks.sz ∧ ks.owns.sum = ks.tot
  | .nil => ⟨rfl, rfl⟩
  | .cons c t ks => by
    have h1 := T.owns_len t
    have h2 := Ks.owns_len ks
    simp only [Ks.owns, Ks.sz, Ks.tot, List.length_append, List.sum_append]
    omega
end
mutual
theorem T.owns_at {a : List Node} : ∀ (t : T) (b i : Nat) (w : Nat), Lies a b t → t.ok → t.owns[i]? = some w → pack_size.f (gt a ((b + i : Nat) : Int)) = some (w : Int) ∧ 3 ≤ w ∧ w ≤ 69
  | .node l ks, b, 0, w, hl, ho, h => by
    simp only [T.owns, List.getElem?_cons_zero, Option.some.injEq] at h
    subst h
    exact ⟨size_ok hl ho, T.own_ge _, T.own_le ho⟩
  | .node l ks, b, i + 1, w, hl, ho, h => by
    simp only [T.owns, List.getElem?_cons_succ] at h
    have := Ks.owns_at ks (b + 1) i w hl.kids ho.2.2 h
    rwa [show b + 1 + i = b + (i + 1) by omega] at this
theorem Ks.owns_at {a : List Node} : ∀ (ks : Ks) (b i : Nat) (w : Nat), ks.all (LL a) b → ks.ok → ks.owns[i]? = some w → pack_size.f (gt a ((b + i : Nat) : Int)) = some (w : Int) ∧ 3 ≤ w ∧ w ≤ 69
  | .nil, b, i, w, _, _, h => by simp [Ks.owns] at h
  | .cons c t ks, b, i, w, hl, ho, h => by
    have hln := (T.owns_len t).1
    rw [Ks.owns] at h
    rcases Nat.lt_or_ge i t.sz with hi | hi
    · rw [List.getElem?_append_left (by omega)] at h
      exact T.owns_at t b i w hl.1 ho.1 h
    · rw [List.getElem?_append_right (by omega), hln] at h
      have := Ks.owns_at ks (b + t.sz) (i - t.sz) w hl.2 ho.2 h
      rwa [show b + t.sz + (i - t.sz) = b + i by omega] at this
end
theorem Size_ok (hm : MayP l) (hl : l.length < 10000) {i : Nat} (hi : i < (tri l).length) : pack_Size.f (tri l) (i : Int) = (pack_size.f (gt (tri l) (i : Int))).bind fun y => some (y, true) := by
  unfold pack_Size.f
  rw [bif_false (c := decide ((i : Int) < 0)) (decide_eq_false (by omega)), bif_false (c := decide ((i : Int) ≥ ((tri l).length : Int))) (decide_eq_false (by omega)), good_ok hm hl]
  simp only [Option.bind_some, Bool.not_true]
  rw [bif_false rfl, gd_pos (by omega)]
end Go.Lf
/- The bytes of a sheet. -/
set_option linter.unusedVariables false
set_option linter.unusedSimpArgs false
namespace Go.Lf
open Go
theorem index_l0 {xs : List Int} {v : Int} (hx : xs.length < 1000000000) : ∀ (fuel i : Nat), xs.length - i < fuel → (v ∈ xs.drop i ∧ ∃ j : Nat, slices_Index_int.l0 xs v fuel i = some (.inr (j : Int))) ∨ (v ∉ xs.drop i ∧ slices_Index_int.l0 xs v fuel i = some (.inl ()))
  | 0, i, h => by omega
  | fuel + 1, i, h => by
    rw [slices_Index_int.l0]
    rcases Nat.lt_or_ge i xs.length with hi | hi
    · rw [bif_true (decide_eq_true (by omega)), gd_pos (by omega), w64_nat (x := (i : Int) + 1) (k := i + 1) (by simp) (by omega), drop_cons default hi, gt_nat]
      by_cases hv : v = xs.getD i default
      · rw [bif_true (c := v == xs.getD i default) (by simpa using hv)]
        exact .inl ⟨by rw [hv]; exact List.mem_cons_self .., i, rfl⟩
      · rw [bif_false (c := v == xs.getD i default) (by simpa using hv)]
        rcases index_l0 hx fuel (i + 1) (by omega) with ⟨h1, h2⟩ | ⟨h1, h2⟩
        · exact .inl ⟨List.mem_cons_of_mem _ h1, h2⟩
        · refine .inr ⟨fun h => ?_, h2⟩
          rcases List.mem_cons.mp h with h | h
          · exact hv h
          · exact h1 h
    · rw [bif_false (decide_eq_false (by omega)), List.drop_eq_nil_of_le hi]
      exact .inr ⟨by simp, rfl⟩
theorem contains_ok {xs : List Int} {v : Int} (hx : xs.length < 1000000000) : slices_Contains_int.f xs v = some (decide (v ∈ xs)) := by
  unfold slices_Contains_int.f slices_Index_int.f
  have h := index_l0 (v := v) hx BIG 0 (by have := BIG_ge; omega)
  rw [List.drop_zero, show ((0 : Nat) : Int) = 0 from rfl] at h
  rcases h with ⟨h1, j, h2⟩ | ⟨h1, h2⟩
  · rw [h2]
    simp [h1]
  · rw [h2]
    simp [h1]
def isKid (a : List Node) (v i : Int) : Prop := v ≠ 0 ∧ v ∈ (gt a i).kids_.toList
instance (a : List Node) (v i : Int) : Decidable (isKid a v i) := by unfold isKid; infer_instance
theorem c1_ok {a : List Node} {v i : Int} (hi : 0 ≤ i ∧ i < (a.length : Int)) : pack_Bytes_c1.f i v a = some (decide (isKid a v i)) := by
  unfold pack_Bytes_c1.f
  by_cases hv : v = 0
  · rw [bif_false (c := v != 0) (by simp [hv])]
    simp [isKid, hv]
  · rw [bif_true (c := v != 0) (by simpa using hv), gd_pos hi, contains_ok (by simp)]
    simp [isKid, hv]
theorem cfunc_l0 {a : List Node} {xs : List Int} {v : Int} (hx : xs.length < 1000000000) (hb : ∀ i ∈ xs, 0 ≤ i ∧ i < (a.length : Int)) : ∀ (fuel i : Nat), xs.length - i < fuel →
    ((∃ y ∈ xs.drop i, isKid a v y) ∧ ∃ j : Nat, slices_IndexFunc_int_pack_Bytes_c1.l0 xs v a fuel i = some (.inr (j : Int))) ∨ ((¬ ∃ y ∈ xs.drop i, isKid a v y) ∧ slices_IndexFunc_int_pack_Bytes_c1.l0 xs v a fuel i = some (.inl ()))
  | 0, i, h => by omega
  | fuel + 1, i, h => by
    rw [slices_IndexFunc_int_pack_Bytes_c1.l0]
    rcases Nat.lt_or_ge i xs.length with hi | hi
    · have hm : xs.getD i default ∈ xs := by
        rw [List.getD_eq_getElem?_getD, List.getElem?_eq_getElem hi]; exact List.getElem_mem hi
      rw [bif_true (decide_eq_true (by omega)), gd_pos (by omega), w64_nat (x := (i : Int) + 1) (k := i + 1) (by simp) (by omega), drop_cons default hi, gt_nat, c1_ok (hb _ hm), Option.bind_some]
      by_cases hv : isKid a v (xs.getD i default)
      · rw [bif_true (decide_eq_true hv)]
        exact .inl ⟨⟨_, List.mem_cons_self .., hv⟩, i, rfl⟩
      · rw [bif_false (decide_eq_false hv)]
        rcases cfunc_l0 hx hb fuel (i + 1) (by omega) with ⟨⟨y, h1, h1'⟩, h2⟩ | ⟨h1, h2⟩
        · exact .inl ⟨⟨y, List.mem_cons_of_mem _ h1, h1'⟩, h2⟩
        · refine .inr ⟨fun ⟨y, h, h'⟩ => ?_, h2⟩
          rcases List.mem_cons.mp h with h | h
          · rw [h] at h'; exact hv h'
          · exact h1 ⟨y, h, h'⟩
    · rw [bif_false (decide_eq_false (by omega)), List.drop_eq_nil_of_le hi]
      exact .inr ⟨by simp, rfl⟩
theorem cfunc_ok {a : List Node} {xs : List Int} {v : Int} (hx : xs.length < 1000000000) (hb : ∀ i ∈ xs, 0 ≤ i ∧ i < (a.length : Int)) : ((∃ y ∈ xs, isKid a v y) ∧ slices_ContainsFunc_int_pack_Bytes_c1.f xs v a = some true) ∨ ((¬ ∃ y ∈ xs, isKid a v y) ∧ slices_ContainsFunc_int_pack_Bytes_c1.f xs v a = some false) := by
  unfold slices_ContainsFunc_int_pack_Bytes_c1.f slices_IndexFunc_int_pack_Bytes_c1.f
  have h := cfunc_l0 (v := v) hx hb BIG 0 (by have := BIG_ge; omega)
  rw [List.drop_zero, show ((0 : Nat) : Int) = 0 from rfl] at h
  rcases h with ⟨h1, j, h2⟩ | ⟨h1, h2⟩
  · exact .inl ⟨h1, by rw [h2]; simp⟩
  · exact .inr ⟨h1, by rw [h2]; simp⟩
theorem mem_kids {v : V16} {x : Int} : x ∈ v.toList ↔ ∃ c : Nat, c < 16 ∧ vg v (c : Int) = x := by
  constructor
  · intro h
    obtain ⟨c, hc, rfl⟩ := List.mem_iff_getElem.mp h
    refine ⟨c, by simpa using hc, ?_⟩
    simp [vg, List.getD_eq_getElem?_getD, List.getElem?_eq_getElem hc]
  · rintro ⟨c, hc, rfl⟩
    have : c < v.toList.length := by simpa using hc
    simp only [vg, Int.toNat_natCast, List.getD_eq_getElem?_getD, List.getElem?_eq_getElem this, Option.getD_some]
    exact List.getElem_mem this
/-- A child stands behind its node. -/
theorem Ks.at_gt : ∀ {ks : Ks} {b m : Nat} {v : V16}, ks.at b v m → ∀ c, m ≤ c → c < 16 → vg v (c : Int) = 0 ∨ (b : Int) ≤ vg v (c : Int)
  | .nil, b, m, v, h, c, h1, h2 => .inl (h c h1 h2)
  | .cons c' t ks, b, m, v, h, c, h1, h2 => by
    obtain ⟨g1, g2, g3, g4, g5⟩ := h
    rcases Nat.lt_trichotomy c c' with hc | rfl | hc
    · exact .inl (g3 c h1 hc)
    · exact .inr (by omega)
    · rcases Ks.at_gt g5 c hc h2 with h | h
      · exact .inl h
      · exact .inr (by omega)
theorem kid_gt {a : List Node} {y : Nat × T} (hl : Lies a y.1 y.2) (ho : y.2.ok) {v : Int} (h : isKid a v (y.1 : Int)) : (y.1 : Int) < v := by
  obtain ⟨i, t⟩ := y
  obtain ⟨l, ks⟩ := t
  obtain ⟨h0, h⟩ := h
  have hg := hl.get
  simp only at hg h ho ⊢
  rw [hg] at h
  obtain ⟨c, hc, rfl⟩ := mem_kids.mp h
  rcases Ks.at_gt (Ks.at_vec0 (b := i + 1) ho.2.1) c (Nat.zero_le _) hc with h | h
  · exact absurd h h0
  · have : (l.node (ks.vec (i + 1) v0)).kids_ = ks.vec (i + 1) v0 := rfl
    rw [this]
    omega
theorem par_kid {a : List Node} {y : Nat × T} (hl : Lies a y.1 y.2) {i : Nat} (hi : 0 < i) (h : Par y i) : isKid a (i : Int) (y.1 : Int) := by
  obtain ⟨b, t⟩ := y
  obtain ⟨l, ks⟩ := t
  have hg := hl.get
  refine ⟨by omega, ?_⟩
  simp only at hg ⊢
  rw [hg]
  obtain ⟨c, hc, he⟩ := h
  exact mem_kids.mpr ⟨c, hc, he⟩
/-- A list of nodes that is a sheet's. -/
structure Shn (a : List Node) (x : Nat × T) (N : List (Nat × T)) : Prop where
  sts : Sts a (x :: N)
  asc : Asc (x.1 + 1) (x.1 + x.2.sz) N
  par : ∀ y ∈ N, ∃ z ∈ x :: N, Par z y.1
theorem shn_top {a : List Node} {x : Nat × T} {N : List (Nat × T)} (h : Shn a x N) : ¬ ∃ y ∈ ix (x :: N), isKid a (x.1 : Int) y := by
  rintro ⟨y, hy, hk⟩
  obtain ⟨z, hz, rfl⟩ := List.mem_map.mp hy
  obtain ⟨h1, h2⟩ := h.sts z hz
  have := kid_gt h1 h2 hk
  rcases List.mem_cons.mp hz with rfl | hz
  · omega
  · have := (h.asc.2 z hz).1
    omega
theorem shn_kid {a : List Node} {x : Nat × T} {N : List (Nat × T)} (h : Shn a x N) {y : Nat × T} (hy : y ∈ N) : ∃ z ∈ ix (x :: N), isKid a (y.1 : Int) z := by
  obtain ⟨z, hz, hp⟩ := h.par y hy
  have := (h.asc.2 y hy).1
  exact ⟨(z.1 : Int), List.mem_map.mpr ⟨z, hz, rfl⟩, par_kid (h.sts z hz).1 (by omega) hp⟩
end Go.Lf
/- The bytes of a sheet, all sheets' bytes. -/
set_option linter.unusedVariables false
set_option linter.unusedSimpArgs false
namespace Go.Lf
open Go
theorem ix_gt {X : List (Nat × T)} {i : Nat} (h : i < X.length) : gt (ix X) (i : Int) = ((X.getD i default).1 : Int) := by
  simp [gt, ix, List.getD_eq_getElem?_getD, List.getElem?_eq_getElem h]
theorem bytes_l0 {a : List Node} {p : Plan} {X : List (Nat × T)} (hp : p.nodes_ = ix X) (hl : X.length < 1000000000) (hs : Sts a X) (ha : X.Pairwise (fun x y => x.1 < y.1)) : ∀ (fuel i : Nat) (last : Int), X.length - i < fuel → (∀ y ∈ X.drop i, last < (y.1 : Int)) → pack_Bytes.l0 a p fuel (i, last) = some (.inl ())
  | 0, i, last, h, _ => by omega
  | fuel + 1, i, last, h, hlast => by
    rw [pack_Bytes.l0, hp]
    have hil := ix_len X
    rcases Nat.lt_or_ge i X.length with hi | hi
    · have hm : X.getD i default ∈ X := by
        rw [List.getD_eq_getElem?_getD, List.getElem?_eq_getElem hi]; exact List.getElem_mem hi
      have hd := drop_cons (default : Nat × T) hi
      have hlt := (hs _ hm).1.lt
      have hpos := T.sz_pos (X.getD i default).2
      have h1 := hlast (X.getD i default) (by rw [hd]; exact List.mem_cons_self ..)
      rw [bif_true (decide_eq_true (by omega)), gd_pos (by omega), ix_gt hi, w64_nat (x := (i : Int) + 1) (k := i + 1) (by simp) (by omega)]
      rw [bif_false (c := decide (((X.getD i default).1 : Int) ≤ last)) (decide_eq_false (by omega)), Option.bind_some, bif_false (decide_eq_false (by omega))]
      refine bytes_l0 hp hl hs ha fuel (i + 1) _ (by omega) fun y hy => ?_
      have h2 : (X.drop i).Pairwise (fun x y => x.1 < y.1) := ha.sublist (List.drop_sublist ..)
      rw [hd] at h2
      have := (List.pairwise_cons.mp h2).1 y hy
      omega
    · rw [bif_false (decide_eq_false (by omega))]
theorem bytes_l1 {a : List Node} {p : Plan} {x : Nat × T} {N : List (Nat × T)} (hp : p.nodes_ = ix (x :: N)) (hl : N.length < 1000000) (h : Shn a x N) :
    ∀ (fuel j acc : Nat), N.length - j < fuel → acc ≤ 100 * (j + 1) → j ≤ N.length → ∃ r : Nat, pack_Bytes.l1 a p fuel (((j + 1 : Nat) : Int), (acc : Int)) = some (r : Int) ∧ r + 3 * (N.length - j) = acc + ows (N.drop j)
  | 0, j, acc, hf, _, _ => by omega
  | fuel + 1, j, acc, hf, hacc, hj => by
    rw [pack_Bytes.l1, hp]
    have hil := ix_len (x :: N)
    rw [List.length_cons] at hil
    rcases Nat.lt_or_ge j N.length with hi | hi
    · have hm : N.getD j default ∈ N := by
        rw [List.getD_eq_getElem?_getD, List.getElem?_eq_getElem hi]; exact List.getElem_mem hi
      obtain ⟨l1, l2⟩ := h.sts _ (List.mem_cons_of_mem _ hm)
      have hlt := l1.lt
      have hpos := T.sz_pos (N.getD j default).2
      have hge := T.own_ge (N.getD j default).2
      have hle := T.own_le l2
      have hg : gt (ix (x :: N)) ((j + 1 : Nat) : Int) = ((N.getD j default).1 : Int) := by
        rw [ix_gt (by simp; omega)]
        simp
      have hb : ∀ i ∈ ix (x :: N), 0 ≤ i ∧ i < (a.length : Int) := by
        intro i hi
        obtain ⟨z, hz, rfl⟩ := List.mem_map.mp hi
        have := (h.sts z hz).1.lt
        have := T.sz_pos z.2
        omega
      rw [bif_true (decide_eq_true (by omega)), gd_pos (by omega), hg, gd_pos (by omega), size_ok l1 l2, Option.bind_some]
      rcases cfunc_ok (a := a) (xs := ix (x :: N)) (v := ((N.getD j default).1 : Int)) (by omega) hb with ⟨-, e⟩ | ⟨e, -⟩
      · rw [e]
        simp only [Option.bind_some]
        rw [bif_true rfl]
        simp only [Option.bind_some]
        rw [w64_nat (x := (acc : Int) + ((N.getD j default).2.own : Int)) (k := acc + (N.getD j default).2.own) (by simp) (by omega), w64_nat (x := ((acc + (N.getD j default).2.own : Nat) : Int) - 3) (k := acc + (N.getD j default).2.own - 3) (by omega) (by omega), w64_nat (x := ((j + 1 : Nat) : Int) + 1) (k := j + 1 + 1) (by simp) (by omega)]
        obtain ⟨r, h1, h2⟩ := bytes_l1 hp hl h fuel (j + 1) (acc + (N.getD j default).2.own - 3) (by omega) (by omega) (by omega)
        refine ⟨r, h1, ?_⟩
        rw [drop_cons default hi, ows]
        omega
      · exact absurd (shn_kid h hm) e
    · rw [bif_false (decide_eq_false (by omega)), List.drop_eq_nil_of_le hi]
      exact ⟨acc, rfl, by simp [ows]; omega⟩
theorem Bytes_ok {a : List Node} {p : Plan} {x : Nat × T} {N : List (Nat × T)} (hp : p.nodes_ = ix (x :: N)) (hl : N.length < 1000000) (h : Shn a x N) (hg : trie_Good.f a = some true) :
    ∃ r : Nat, pack_Bytes.f a p = some ((r : Int), true) ∧ r + 3 * N.length = x.2.own + ows N := by
  unfold pack_Bytes.f
  have hasc : (x :: N).Pairwise (fun x y => x.1 < y.1) := List.pairwise_cons.mpr ⟨fun y hy => by have := (h.asc.2 y hy).1; omega, h.asc.1⟩
  have h0 := bytes_l0 (a := a) hp (by simp; omega) h.sts hasc BIG 0 (-1) (by simp; have := BIG_ge; omega) (fun y _ => by omega)
  rw [show ((0 : Nat) : Int) = 0 from rfl] at h0
  rw [h0]
  simp only [Option.bind_some]
  rw [hg, Option.bind_some, bif_false (c := !true) rfl]
  obtain ⟨B, hB⟩ : ∃ B, BIG = B + 1 := ⟨BIG - 1, by have := BIG_ge; omega⟩
  have hBg : 1000000000 < B := by have := BIG_ge; omega
  rw [hB, pack_Bytes.l1, hp]
  have hil := ix_len (x :: N)
  rw [List.length_cons] at hil
  obtain ⟨l1, l2⟩ := h.sts x (List.mem_cons_self ..)
  have hlt := l1.lt
  have hpos := T.sz_pos x.2
  have hle := T.own_le l2
  have hgx : gt (ix (x :: N)) 0 = (x.1 : Int) := rfl
  have hb : ∀ i ∈ ix (x :: N), 0 ≤ i ∧ i < (a.length : Int) := by
    intro i hi
    obtain ⟨z, hz, rfl⟩ := List.mem_map.mp hi
    have := (h.sts z hz).1.lt
    have := T.sz_pos z.2
    omega
  rw [bif_true (decide_eq_true (by omega)), gd_pos (by omega), hgx, gd_pos (by omega), size_ok l1 l2, Option.bind_some]
  rcases cfunc_ok (a := a) (xs := ix (x :: N)) (v := (x.1 : Int)) (by omega) hb with ⟨e, -⟩ | ⟨-, e⟩
  · exact absurd e (shn_top h)
  · rw [e]
    simp only [Option.bind_some]
    rw [bif_false rfl]
    simp only [Option.bind_some]
    rw [w64_nat (x := (0 : Int) + (x.2.own : Int)) (k := x.2.own) (by simp) (by omega), w64_nat (x := (0 : Int) + 1) (k := 0 + 1) (by simp) (by omega)]
    obtain ⟨r, h1, h2⟩ := bytes_l1 hp hl h B 0 x.2.own (by omega) (by omega) (by omega)
    rw [h1]
    exact ⟨r, rfl, by rw [List.drop_zero] at h2; omega⟩
end Go.Lf
