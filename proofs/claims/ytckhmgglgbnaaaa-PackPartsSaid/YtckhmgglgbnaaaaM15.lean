/- The bytes of a sheet. -/
import Derived.Test.YtckhmgglgbnaaaaM14
set_option linter.unusedVariables false
set_option linter.unusedSimpArgs false
namespace Go.Lf
open Go
theorem index_l0 {xs : List Int} {v : Int} (hx : xs.length < 1000000000) : ∀ (fuel i : Nat), xs.length - i < fuel → (v ∈ xs.drop i ∧ ∃ j : Nat, slices_Index_int.l0 xs v fuel i = some (.inr (j : Int))) ∨ (v ∉ xs.drop i ∧ slices_Index_int.l0 xs v fuel i = some (.inl ()))
  | 0, i, h => by omega
  | fuel + 1, i, h => by
    rw [slices_Index_int.l0]
    rcases Nat.lt_or_ge i xs.length with hi | hi
    · rw [bif_true (decide_eq_true (by omega)), gd_pos (by omega), w64_nat (x := (i : Int) + 1) (k := i + 1) (by simp) (by omega), drop_cons default hi, gt_nat]
      by_cases hv : v = xs.getD i default
      · rw [bif_true (c := v == xs.getD i default) (by simpa using hv)]
        exact .inl ⟨by rw [hv]; exact List.mem_cons_self .., i, rfl⟩
      · rw [bif_false (c := v == xs.getD i default) (by simpa using hv)]
        rcases index_l0 hx fuel (i + 1) (by omega) with ⟨h1, h2⟩ | ⟨h1, h2⟩
        · exact .inl ⟨List.mem_cons_of_mem _ h1, h2⟩
        · refine .inr ⟨fun h => ?_, h2⟩
          rcases List.mem_cons.mp h with h | h
          · exact hv h
          · exact h1 h
    · rw [bif_false (decide_eq_false (by omega)), List.drop_eq_nil_of_le hi]
      exact .inr ⟨by simp, rfl⟩
theorem contains_ok {xs : List Int} {v : Int} (hx : xs.length < 1000000000) : slices_Contains_int.f xs v = some (decide (v ∈ xs)) := by
  unfold slices_Contains_int.f slices_Index_int.f
  have h := index_l0 (v := v) hx BIG 0 (by have := BIG_ge; omega)
  rw [List.drop_zero, show ((0 : Nat) : Int) = 0 from rfl] at h
  rcases h with ⟨h1, j, h2⟩ | ⟨h1, h2⟩
  · rw [h2]
    simp [h1]
  · rw [h2]
    simp [h1]
def isKid (a : List Node) (v i : Int) : Prop := v ≠ 0 ∧ v ∈ (gt a i).kids_.toList
instance (a : List Node) (v i : Int) : Decidable (isKid a v i) := by unfold isKid; infer_instance
theorem c1_ok {a : List Node} {v i : Int} (hi : 0 ≤ i ∧ i < (a.length : Int)) : pack_Bytes_c1.f i v a = some (decide (isKid a v i)) := by
  unfold pack_Bytes_c1.f
  by_cases hv : v = 0
  · rw [bif_false (c := v != 0) (by simp [hv])]
    simp [isKid, hv]
  · rw [bif_true (c := v != 0) (by simpa using hv), gd_pos hi, contains_ok (by simp)]
    simp [isKid, hv]
theorem cfunc_l0 {a : List Node} {xs : List Int} {v : Int} (hx : xs.length < 1000000000) (hb : ∀ i ∈ xs, 0 ≤ i ∧ i < (a.length : Int)) : ∀ (fuel i : Nat), xs.length - i < fuel →
    ((∃ y ∈ xs.drop i, isKid a v y) ∧ ∃ j : Nat, slices_IndexFunc_int_pack_Bytes_c1.l0 xs v a fuel i = some (.inr (j : Int))) ∨ ((¬ ∃ y ∈ xs.drop i, isKid a v y) ∧ slices_IndexFunc_int_pack_Bytes_c1.l0 xs v a fuel i = some (.inl ()))
  | 0, i, h => by omega
  | fuel + 1, i, h => by
    rw [slices_IndexFunc_int_pack_Bytes_c1.l0]
    rcases Nat.lt_or_ge i xs.length with hi | hi
    · have hm : xs.getD i default ∈ xs := by
        rw [List.getD_eq_getElem?_getD, List.getElem?_eq_getElem hi]; exact List.getElem_mem hi
      rw [bif_true (decide_eq_true (by omega)), gd_pos (by omega), w64_nat (x := (i : Int) + 1) (k := i + 1) (by simp) (by omega), drop_cons default hi, gt_nat, c1_ok (hb _ hm), Option.bind_some]
      by_cases hv : isKid a v (xs.getD i default)
      · rw [bif_true (decide_eq_true hv)]
        exact .inl ⟨⟨_, List.mem_cons_self .., hv⟩, i, rfl⟩
      · rw [bif_false (decide_eq_false hv)]
        rcases cfunc_l0 hx hb fuel (i + 1) (by omega) with ⟨⟨y, h1, h1'⟩, h2⟩ | ⟨h1, h2⟩
        · exact .inl ⟨⟨y, List.mem_cons_of_mem _ h1, h1'⟩, h2⟩
        · refine .inr ⟨fun ⟨y, h, h'⟩ => ?_, h2⟩
          rcases List.mem_cons.mp h with h | h
          · rw [h] at h'; exact hv h'
          · exact h1 ⟨y, h, h'⟩
    · rw [bif_false (decide_eq_false (by omega)), List.drop_eq_nil_of_le hi]
      exact .inr ⟨by simp, rfl⟩
theorem cfunc_ok {a : List Node} {xs : List Int} {v : Int} (hx : xs.length < 1000000000) (hb : ∀ i ∈ xs, 0 ≤ i ∧ i < (a.length : Int)) : ((∃ y ∈ xs, isKid a v y) ∧ slices_ContainsFunc_int_pack_Bytes_c1.f xs v a = some true) ∨ ((¬ ∃ y ∈ xs, isKid a v y) ∧ slices_ContainsFunc_int_pack_Bytes_c1.f xs v a = some false) := by
  unfold slices_ContainsFunc_int_pack_Bytes_c1.f slices_IndexFunc_int_pack_Bytes_c1.f
  have h := cfunc_l0 (v := v) hx hb BIG 0 (by have := BIG_ge; omega)
  rw [List.drop_zero, show ((0 : Nat) : Int) = 0 from rfl] at h
  rcases h with ⟨h1, j, h2⟩ | ⟨h1, h2⟩
  · exact .inl ⟨h1, by rw [h2]; simp⟩
  · exact .inr ⟨h1, by rw [h2]; simp⟩
theorem mem_kids {v : V16} {x : Int} : x ∈ v.toList ↔ ∃ c : Nat, c < 16 ∧ vg v (c : Int) = x := by
  constructor
  · intro h
    obtain ⟨c, hc, rfl⟩ := List.mem_iff_getElem.mp h
    refine ⟨c, by simpa using hc, ?_⟩
    simp [vg, List.getD_eq_getElem?_getD, List.getElem?_eq_getElem hc]
  · rintro ⟨c, hc, rfl⟩
    have : c < v.toList.length := by simpa using hc
    simp only [vg, Int.toNat_natCast, List.getD_eq_getElem?_getD, List.getElem?_eq_getElem this, Option.getD_some]
    exact List.getElem_mem this
/-- A child stands behind its node. -/
theorem Ks.at_gt : ∀ {ks : Ks} {b m : Nat} {v : V16}, ks.at b v m → ∀ c, m ≤ c → c < 16 → vg v (c : Int) = 0 ∨ (b : Int) ≤ vg v (c : Int)
  | .nil, b, m, v, h, c, h1, h2 => .inl (h c h1 h2)
  | .cons c' t ks, b, m, v, h, c, h1, h2 => by
    obtain ⟨g1, g2, g3, g4, g5⟩ := h
    rcases Nat.lt_trichotomy c c' with hc | rfl | hc
    · exact .inl (g3 c h1 hc)
    · exact .inr (by omega)
    · rcases Ks.at_gt g5 c hc h2 with h | h
      · exact .inl h
      · exact .inr (by omega)
theorem kid_gt {a : List Node} {y : Nat × T} (hl : Lies a y.1 y.2) (ho : y.2.ok) {v : Int} (h : isKid a v (y.1 : Int)) : (y.1 : Int) < v := by
  obtain ⟨i, t⟩ := y
  obtain ⟨l, ks⟩ := t
  obtain ⟨h0, h⟩ := h
  have hg := hl.get
  simp only at hg h ho ⊢
  rw [hg] at h
  obtain ⟨c, hc, rfl⟩ := mem_kids.mp h
  rcases Ks.at_gt (Ks.at_vec0 (b := i + 1) ho.2.1) c (Nat.zero_le _) hc with h | h
  · exact absurd h h0
  · have : (l.node (ks.vec (i + 1) v0)).kids_ = ks.vec (i + 1) v0 := rfl
    rw [this]
    omega
theorem par_kid {a : List Node} {y : Nat × T} (hl : Lies a y.1 y.2) {i : Nat} (hi : 0 < i) (h : Par y i) : isKid a (i : Int) (y.1 : Int) := by
  obtain ⟨b, t⟩ := y
  obtain ⟨l, ks⟩ := t
  have hg := hl.get
  refine ⟨by omega, ?_⟩
  simp only at hg ⊢
  rw [hg]
  obtain ⟨c, hc, he⟩ := h
  exact mem_kids.mpr ⟨c, hc, he⟩
/-- A list of nodes that is a sheet's. -/
structure Shn (a : List Node) (x : Nat × T) (N : List (Nat × T)) : Prop where
  sts : Sts a (x :: N)
  asc : Asc (x.1 + 1) (x.1 + x.2.sz) N
  par : ∀ y ∈ N, ∃ z ∈ x :: N, Par z y.1
theorem shn_top {a : List Node} {x : Nat × T} {N : List (Nat × T)} (h : Shn a x N) : ¬ ∃ y ∈ ix (x :: N), isKid a (x.1 : Int) y := by
  rintro ⟨y, hy, hk⟩
  obtain ⟨z, hz, rfl⟩ := List.mem_map.mp hy
  obtain ⟨h1, h2⟩ := h.sts z hz
  have := kid_gt h1 h2 hk
  rcases List.mem_cons.mp hz with rfl | hz
  · omega
  · have := (h.asc.2 z hz).1
    omega
theorem shn_kid {a : List Node} {x : Nat × T} {N : List (Nat × T)} (h : Shn a x N) {y : Nat × T} (hy : y ∈ N) : ∃ z ∈ ix (x :: N), isKid a (y.1 : Int) z := by
  obtain ⟨z, hz, hp⟩ := h.par y hy
  have := (h.asc.2 y hy).1
  exact ⟨(z.1 : Int), List.mem_map.mpr ⟨z, hz, rfl⟩, par_kid (h.sts z hz).1 (by omega) hp⟩
end Go.Lf
