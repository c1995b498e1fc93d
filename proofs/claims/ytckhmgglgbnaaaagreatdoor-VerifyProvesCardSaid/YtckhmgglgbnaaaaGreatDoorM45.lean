/- An Item's text as a list of numbers. -/
import Derived.Test.YtckhmgglgbnaaaaGreatDoorMB
set_option linter.unusedVariables false
set_option linter.unusedSimpArgs false
namespace Go.Lf
open Go
theorem B_byte {k : Nat} (h : k < 256) : B (strOfNums [wu8 (k : Int)]) = [k] := by
 have hw : wu8 (k : Int) = (k : Int) := wu8_id (by omega)
 rw [hw, B_strOfNums (by intro x hx; simp at hx; omega)]
 simp
theorem B_vl {v : ByteArray} (h : v.size ≤ 16) : B (vl v) = v.size :: B v := by
 unfold vl
 rw [B_append, B_byte (by omega)]
 rfl
theorem B_pkd {s : ByteArray} (h : s.size ≤ 16) (hs : Sml s) : B (pkd s) = s.size :: pk (B s) := by
 unfold pkd
 rw [B_append, B_byte (by omega), B_pck hs]
 rfl
theorem enc1 {i : Item} (h : Fit i) (k : i.kind_ = 1) : B (enc i) = 1 :: i.path_.size :: (pk (B i.path_) ++ (i.value_.size :: B i.value_)) := by
 unfold enc
 rw [if_pos k, k, B_append, B_append, B_pkd h.path h.sml, B_vl h.val, show (1 : Int) = ((1 : Nat) : Int) from rfl, B_byte (by decide)]
 simp
theorem enc2 {i : Item} (h : Fit i) (k : i.kind_ = 2) : B (enc i) = 2 :: i.path_.size :: (pk (B i.path_) ++ B (jn i.hashes_)) := by
 unfold enc
 rw [if_neg (by rw [k]; decide), if_pos k, k, B_append, B_append, B_pkd h.path h.sml, show (2 : Int) = ((2 : Nat) : Int) from rfl, B_byte (by decide)]
 simp
theorem mask_bytes {m : Nat} (h : m < 65536) : B (strOfNums [wu8 (shr .i64 (m : Int) 8), wu8 (m : Int)]) = [m / 256, m % 256] := by
 have e1 : shr .i64 (m : Int) 8 = ((m / 256 : Nat) : Int) := by
  unfold shr
  have h1 : (IntKind.bits .i64) = 64 := rfl
  rw [h1]
  have : (2 : Int) ^ min (8 : Int).toNat 64 = ((256 : Nat) : Int) := by decide
  rw [this, Int.fdiv_eq_ediv_of_nonneg _ (by omega)]
  simp
 have e2 : wu8 (m : Int) = ((m % 256 : Nat) : Int) := by
  simp only [wu8, IntKind.wrap, IntKind.bits, IntKind.signed]
  simp
 have e3 : wu8 ((m / 256 : Nat) : Int) = ((m / 256 : Nat) : Int) := wu8_id (by omega)
 rw [e1, e2, e3, B_strOfNums (by intro x hx; simp at hx; omega)]
 simp
 omega
theorem enc3 {i : Item} {m : Nat} (h : Fit i) (k : i.kind_ = 3) (hm : i.mask_ = (m : Int)) (hm' : m < 65536) : B (enc i) = 3 :: (m / 256) :: (m % 256) :: ((if i.has_ = true then 1 :: i.value_.size :: B i.value_ else [0]) ++ B (jn i.hashes_)) := by
 unfold enc
 rw [if_neg (by rw [k]; decide), if_neg (by rw [k]; decide), k, hm]
 by_cases hh : i.has_ = true
 ·rw [if_pos hh, if_pos hh]
  simp only [B_append]
  rw [mask_bytes hm', B_vl h.val, show (3 : Int) = ((3 : Nat) : Int) from rfl, B_byte (by decide)]
  rfl
 ·rw [if_neg hh, if_neg hh]
  simp only [B_append]
  rw [mask_bytes hm', show (3 : Int) = ((3 : Nat) : Int) from rfl, B_byte (by decide)]
  rfl
end Go.Lf
