/- How many bytes nodes have; how a sheet grows. -/
import Derived.Test.YtckhmgglgbnaaaaM9
set_option linter.unusedVariables false
set_option linter.unusedSimpArgs false
namespace Go.Lf
open Go
def Ks.cnt : Ks → Nat
  | .nil => 0
  | .cons _ _ ks => ks.cnt + 1
def T.own : T → Nat
  | .node l ks => if l.kind = 3 then 4 + (if l.has then 1 + l.value.size else 0) + 3 * ks.cnt else if l.kind = 2 then 5 + (l.path.size + 1) / 2 else 3 + (l.path.size + 1) / 2 + l.value.size
def Lab.good (l : Lab) : Prop := l.path.size ≤ 16 ∧ Sml l.path ∧ l.value.size ≤ 16 ∧ (l.kind = 1 ∨ l.kind = 2 ∨ l.kind = 3)
mutual
def T.ok : T → Prop
  | .node l ks => l.good ∧ ks.up 0 ∧ ks.ok
def Ks.ok : Ks → Prop
  | .nil => True
  | .cons _ t ks => t.ok ∧ ks.ok
end
theorem Ks.cnt_le : ∀ {ks : Ks} {m : Nat}, ks.up m → m ≤ 16 → ks.cnt ≤ 16 - m
  | .nil, m, _, _ => by simp [Ks.cnt]
  | .cons c t ks, m, h, hm => by
    have := Ks.cnt_le h.2.2 (by have := h.2.1; omega)
    have := h.1
    have := h.2.1
    rw [Ks.cnt]
    omega
theorem T.own_ge (t : T) : 3 ≤ t.own := by
  obtain ⟨l, ks⟩ := t
  rw [T.own]
  split
  · omega
  · split <;> omega
theorem T.own_le {t : T} (h : t.ok) : t.own ≤ 69 := by
  obtain ⟨l, ks⟩ := t
  obtain ⟨⟨h1, h2, h3, h4⟩, h5, h6⟩ := h
  have := Ks.cnt_le h5 (by omega)
  rw [T.own]
  split
  · split <;> omega
  · split <;> omega
theorem psize_l0 {nd : Node} : ∀ (fuel m : Nat) (ks : Ks) (bk s : Nat), 16 - m < fuel → m ≤ 16 → ks.at bk nd.kids_ m → 0 < bk → s ≤ 100 + 3 * m → pack_size.l0 nd fuel (m, s) = some ((s + 3 * ks.cnt : Nat) : Int)
  | 0, m, ks, bk, s, h, _, _, _, _ => by omega
  | fuel + 1, m, ks, bk, s, h, hm, hat, hb, hs => by
    rw [pack_size.l0]
    rcases Nat.lt_or_ge m 16 with h16 | h16
    · rw [bif_true (decide_eq_true (by omega)), gd_pos (by omega), w64_nat (x := (m : Int) + 1) (k := m + 1) (by simp) (by omega)]
      rcases Ks.at_step hat h16 with ⟨h0, hat'⟩ | ⟨t, r, rfl, h0, hat'⟩
      · rw [h0, bif_false (c := (0 : Int) != 0) rfl, Option.bind_some]
        exact psize_l0 fuel (m + 1) ks bk s (by omega) (by omega) hat' hb (by omega)
      · rw [h0, bif_true (c := (bk : Int) != 0) (by simp; omega), Option.bind_some, w64_nat (x := (s : Int) + 3) (k := s + 3) (by simp) (by omega)]
        rw [psize_l0 fuel (m + 1) r (bk + t.sz) (s + 3) (by omega) (by omega) hat' (by omega) (by omega), Ks.cnt]
        congr 2
        omega
    · rw [bif_false (decide_eq_false (by omega))]
      have : ks = .nil := by
        cases ks with
        | nil => rfl
        | cons c t r =>
          obtain ⟨h1, h2, -⟩ := hat
          omega
      subst this
      simp [Ks.cnt]
theorem pgood_ok {s : ByteArray} (h1 : s.size ≤ 16) (h2 : Sml s) : nibble_Good.f s = some true := by
  unfold nibble_Good.f
  rw [bif_true (decide_eq_true (by omega))]
  rcases small_ok (s := s) (by omega) with ⟨-, h⟩ | ⟨h, -⟩
  · rw [h]; rfl
  · exact absurd h2 h
theorem pack_ok {s : ByteArray} (h1 : s.size ≤ 16) (h2 : Sml s) : nibble_Pack.f s = some (strOfNums [wu8 (s.size : Int)] ++ pck s, true) ∧ (strOfNums [wu8 (s.size : Int)] ++ pck s).size = 1 + (s.size + 1) / 2 := by
  have hsz : (pck s).size = (s.size + 1) / 2 := by rw [← B_len, B_pck h2, pk_len, B_len]
  constructor
  · unfold nibble_Pack.f
    rw [pgood_ok h1 h2, Option.bind_some, bif_false (c := !true) rfl, two_ok (by omega) h2, Option.bind_some, gd_pos (by rw [strOfNums_size, hsz]; simp; omega)]
  · rw [app_size, strOfNums_size, hsz]
    simp
/-- A tree stands in a list of nodes at a place. -/
def Lies (a : List Node) (b : Nat) (t : T) : Prop := ∃ pre post, a = pre ++ (t.flat b ++ post) ∧ pre.length = b
theorem Lies.get {a : List Node} {b : Nat} {l : Lab} {ks : Ks} (h : Lies a b (.node l ks)) : gt a (b : Int) = l.node (ks.vec (b + 1) v0) := by
  obtain ⟨pre, post, rfl, rfl⟩ := h
  rw [T.flat, List.cons_append]
  exact gt_end _ _ _
theorem Lies.lt {a : List Node} {b : Nat} {t : T} (h : Lies a b t) : b + t.sz ≤ a.length := by
  obtain ⟨pre, post, rfl, rfl⟩ := h
  simp [T.flat_len]
theorem size_ok {a : List Node} {b : Nat} {t : T} (h : Lies a b t) (hk : t.ok) : pack_size.f (gt a (b : Int)) = some ((t.own : Nat) : Int) := by
  obtain ⟨l, ks⟩ := t
  obtain ⟨⟨h1, h2, h3, h4⟩, h5, h6⟩ := hk
  rw [h.get]
  unfold pack_size.f
  have hat : ks.at (b + 1) (l.node (ks.vec (b + 1) v0)).kids_ 0 := Ks.at_vec0 h5
  have e1 : (l.node (ks.vec (b + 1) v0)).kind_ = l.kind := rfl
  have e2 : (l.node (ks.vec (b + 1) v0)).has_ = l.has := rfl
  have e3 : (l.node (ks.vec (b + 1) v0)).value_ = l.value := rfl
  have e4 : (l.node (ks.vec (b + 1) v0)).path_ = l.path := rfl
  rw [e1, e2, e3, e4, T.own]
  have hl : ∀ s : Nat, s ≤ 100 → pack_size.l0 (l.node (ks.vec (b + 1) v0)) BIG (0, (s : Int)) = some ((s + 3 * ks.cnt : Nat) : Int) := by
    intro s hs
    have := psize_l0 BIG 0 ks (b + 1) s (by have := BIG_ge; omega) (by omega) hat (by omega) (by omega)
    rwa [show ((0 : Nat) : Int) = 0 from rfl] at this
  by_cases hk : l.kind = 3
  · rw [bif_true (c := l.kind == 3) (by simp [hk]), if_pos hk]
    cases hh : l.has
    · rw [bif_false rfl, Option.bind_some, show (4 : Int) = ((4 : Nat) : Int) from rfl, hl 4 (by omega)]
      simp
    · rw [bif_true rfl, w64_nat (x := 1 + (l.value.size : Int)) (k := 1 + l.value.size) (by simp) (by omega), w64_nat (x := 4 + ((1 + l.value.size : Nat) : Int)) (k := 4 + (1 + l.value.size)) (by simp) (by omega), Option.bind_some, hl _ (by omega)]
      simp
  · rw [bif_false (c := l.kind == 3) (by simp [hk]), if_neg hk]
    obtain ⟨p1, p2⟩ := pack_ok h1 h2
    rw [p1]
    simp only [Option.bind_some, p2]
    by_cases hk2 : l.kind = 2
    · rw [bif_true (c := l.kind == 2) (by simp [hk2]), if_pos hk2, w64_nat (x := 1 + ((1 + (l.path.size + 1) / 2 : Nat) : Int)) (k := 2 + (l.path.size + 1) / 2) (by omega) (by omega), w64_nat (k := 5 + (l.path.size + 1) / 2) (by omega) (by omega)]
    · rw [bif_false (c := l.kind == 2) (by simp [hk2]), if_neg hk2, w64_nat (x := 1 + ((1 + (l.path.size + 1) / 2 : Nat) : Int)) (k := 2 + (l.path.size + 1) / 2) (by omega) (by omega), w64_nat (x := ((2 + (l.path.size + 1) / 2 : Nat) : Int) + 1) (k := 3 + (l.path.size + 1) / 2) (by omega) (by omega), w64_nat (k := 3 + (l.path.size + 1) / 2 + l.value.size) (by omega) (by omega)]
end Go.Lf
