/- Plain facts: numbers that do not wrap, bytes as lists of numbers, loops with fuel. -/
import Derived.Test.YtckhmgglgbnaaaaDoorU5
set_option linter.unusedVariables false
set_option linter.unusedSimpArgs false
namespace Go.Lf
open Go

theorem w64_id {x : Int} (h : -9223372036854775808 ≤ x ∧ x < 9223372036854775808) : w64 x = x := by
  simp only [w64, IntKind.wrap, IntKind.bits, IntKind.signed, Bool.true_and]
  simp
  split <;> omega
theorem wu8_id {x : Int} (h : 0 ≤ x ∧ x < 256) : wu8 x = x := by
  simp only [wu8, IntKind.wrap, IntKind.bits, IntKind.signed]
  simp
  omega
/-- A text's bytes, as numbers. -/
def B (s : ByteArray) : List Nat := s.data.toList.map UInt8.toNat
theorem B_len (s : ByteArray) : (B s).length = s.size := by
  unfold B
  rw [List.length_map]
  rfl
theorem B_inj {s t : ByteArray} (h : B s = B t) : s = t := by
  obtain ⟨⟨s⟩⟩ := s
  obtain ⟨⟨t⟩⟩ := t
  simp only [B] at h
  have := (List.map_inj_right (fun x y h => UInt8.toNat_inj.mp h)).mp h
  rw [this]
theorem B_eq {s t : ByteArray} : s = t ↔ B s = B t := ⟨fun h => by rw [h], B_inj⟩
theorem B_lt {s : ByteArray} {b : Nat} (h : b ∈ B s) : b < 256 := by
  simp only [B, List.mem_map] at h
  obtain ⟨x, -, rfl⟩ := h
  exact x.toNat_lt
theorem B_empty : B (⟨#[]⟩ : ByteArray) = [] := rfl
theorem B_append (s t : ByteArray) : B (s ++ t) = B s ++ B t := by simp [B]
theorem bt_B (s : ByteArray) (i : Int) : bt s i = ((B s).getD i.toNat 0 : Nat) := by
  simp only [bt, B, List.getD_eq_getElem?_getD, List.getElem?_map]
  cases s.data.toList[i.toNat]? <;> simp
theorem B_sub (s : ByteArray) (i j : Int) : B (sub s i j) = ((B s).take j.toNat).drop i.toNat := by
  simp only [B, sub]
  rw [ByteArray.data_extract]
  simp [List.map_take, List.map_drop, Array.toList_extract, List.extract_eq_take_drop, List.drop_take]
theorem seq_B (s t : ByteArray) : seq_ s t = decide (s = t) := by
  unfold seq_
  rw [Bool.eq_iff_iff, beq_iff_eq, decide_eq_true_iff, ByteArray.toList_eq, ByteArray.toList_eq]
  obtain ⟨⟨s⟩⟩ := s
  obtain ⟨⟨t⟩⟩ := t
  simp
theorem bytesLess_B : ∀ (x y : List UInt8), Op.bytesLess x y = decide (x.map UInt8.toNat < y.map UInt8.toNat)
  | x, [] => by simp [Op.bytesLess]
  | [], _ :: _ => by simp [Op.bytesLess]
  | a :: x, b :: y => by
    rw [Op.bytesLess, bytesLess_B x y, Bool.eq_iff_iff]
    simp only [Bool.or_eq_true, Bool.and_eq_true, decide_eq_true_eq, beq_iff_eq, List.map_cons, List.cons_lt_cons_iff, UInt8.lt_iff_toNat_lt]
    constructor
    · rintro (h | ⟨rfl, h⟩)
      · exact .inl h
      · exact .inr ⟨rfl, h⟩
    · rintro (h | ⟨h, h'⟩)
      · exact .inl h
      · exact .inr ⟨UInt8.toNat_inj.mp h, h'⟩
theorem slt_B (s t : ByteArray) : slt s t = decide (B s < B t) := by
  unfold slt B
  rw [ByteArray.toList_eq, ByteArray.toList_eq, bytesLess_B]
theorem B_strOfNums {l : List Int} (h : ∀ x ∈ l, 0 ≤ x ∧ x < 256) : B (strOfNums l) = l.map Int.toNat := by
  unfold B
  rw [strOfNums_data, List.map_map]
  apply List.map_congr_left
  intro x hx
  have := h x hx
  simp only [Function.comp, UInt8.toNat_ofNat']
  omega
/-- A text of given bytes. -/
def S (l : List Nat) : ByteArray := ⟨(l.map UInt8.ofNat).toArray⟩
theorem B_S {l : List Nat} (h : ∀ b ∈ l, b < 256) : B (S l) = l := by
  simp only [B, S, List.map_map]
  conv => rhs; rw [← List.map_id l]
  apply List.map_congr_left
  intro x hx
  have := h x hx
  simp only [Function.comp, UInt8.toNat_ofNat', id]
  omega
theorem gt_nat {α : Type} [Inhabited α] (xs : List α) (i : Nat) : gt xs (i : Int) = xs.getD i default := rfl
theorem vg_nat {m : Nat} (v : Vector Int m) (i : Nat) : vg v (i : Int) = v.toList.getD i 0 := rfl
theorem vg_set {m : Nat} (v : Vector Int m) {i j : Nat} (x : Int) (hi : i < m) : vg (vset v (i : Int) x) (j : Int) = if i = j then x else vg v (j : Int) := by
  simp only [vg, vset, Int.toNat_natCast]
  rw [Vector.toList_setIfInBounds, List.getD_eq_getElem?_getD, List.getD_eq_getElem?_getD, List.getElem?_set]
  split
  · subst_vars; simp [hi]
  · rfl
theorem vg_zero {m : Nat} (j : Nat) : vg (Vector.replicate m 0 : Vector Int m) (j : Int) = 0 := by
  simp only [vg, Vector.toList_replicate, Int.toNat_natCast, List.getD_eq_getElem?_getD]
  rw [List.getElem?_replicate]
  split <;> simp
/-- How many numbers two lists begin with alike. -/
def comm : List Nat → List Nat → Nat
  | a :: x, b :: y => if a = b then comm x y + 1 else 0
  | _, _ => 0
theorem comm_le_left : ∀ x y : List Nat, comm x y ≤ x.length
  | [], _ => by simp [comm]
  | a :: x, [] => by simp [comm]
  | a :: x, b :: y => by
    have := comm_le_left x y
    unfold comm
    split <;> simp <;> omega
theorem comm_le_right : ∀ x y : List Nat, comm x y ≤ y.length
  | [], _ => by simp [comm]
  | a :: x, [] => by simp [comm]
  | a :: x, b :: y => by
    have := comm_le_right x y
    unfold comm
    split <;> simp <;> omega
theorem comm_take : ∀ x y : List Nat, x.take (comm x y) = y.take (comm x y)
  | [], _ => by simp [comm]
  | a :: x, [] => by simp [comm]
  | a :: x, b :: y => by
    unfold comm
    split
    · subst_vars; simp [comm_take x y]
    · simp
theorem comm_ne : ∀ x y : List Nat, comm x y < x.length → comm x y < y.length → x[comm x y]? ≠ y[comm x y]?
  | [], _, h, _ => by simp at h
  | a :: x, [], _, h => by simp at h
  | a :: x, b :: y, h, h' => by
    unfold comm at *
    split
    · rename_i e
      rw [if_pos e] at h h'
      simp only [List.length_cons, Nat.add_lt_add_iff_right] at h h'
      simpa using comm_ne x y h h'
    · simpa using ‹_›
end Go.Lf
