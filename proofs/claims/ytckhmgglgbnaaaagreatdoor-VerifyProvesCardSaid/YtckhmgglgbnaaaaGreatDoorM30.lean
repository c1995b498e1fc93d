/- The program's digest answers every text, with 32 bytes. -/
import Derived.Test.YtckhmgglgbnaaaaGreatDoorMA
set_option linter.unusedVariables false
set_option linter.unusedSimpArgs false
namespace Go.Lf
open Go
theorem u64_nn (x : Int) : 0 ≤ IntKind.wrap .u64 x := by
 simp only [IntKind.wrap, IntKind.bits, IntKind.signed]
 simp
 omega
theorem turned_ok (a b : Int) : ∃ y, digest_turned.f a b = some y := by
 unfold digest_turned.f math_bits_RotateLeft32.f
 rw [gd_pos (by unfold band; exact u64_nn _), gd_pos (by exact u64_nn _)]
 exact ⟨_, rfl⟩
theorem sched_l0 (a : Vector Int 64) : ∀ (fuel i : Nat) (v : Vector Int 64), 64 - i < fuel → ∃ y, digest_schedule.l0 a fuel (v, (i : Int)) = some y
 | 0, i, v, h => by omega
 | fuel + 1, i, v, h => by
  rw [digest_schedule.l0]
  rcases Nat.lt_or_ge i 64 with hi | hi
  ·have e : w64 ((i : Int).tdiv 4) = ((i / 4 : Nat) : Int) := w64_nat (by rw [show (4 : Int) = ((4 : Nat) : Int) from rfl, ← Int.ofNat_tdiv]) (by omega)
   rw [bif_true (decide_eq_true (by omega)), e, gd_pos (by omega), gd_pos (by omega), gd_pos (by omega), w64_nat (x := (i : Int) + 1) (k := i + 1) (by simp) (by omega)]
   exact sched_l0 a fuel (i + 1) _ (by omega)
  ·rw [bif_false (decide_eq_false (by omega))]
   exact ⟨v, rfl⟩
theorem sched_l1 : ∀ (fuel i : Nat) (v : Vector Int 64), 64 - i < fuel → 16 ≤ i → ∃ y, digest_schedule.l1 fuel (v, (i : Int)) = some y
 | 0, i, v, h, _ => by omega
 | fuel + 1, i, v, h, h16 => by
  rw [digest_schedule.l1]
  rcases Nat.lt_or_ge i 64 with hi | hi
  ·have e1 : w64 ((i : Int) - 15) = ((i - 15 : Nat) : Int) := w64_nat (by omega) (by omega)
   have e2 : w64 ((i : Int) - 2) = ((i - 2 : Nat) : Int) := w64_nat (by omega) (by omega)
   have e3 : w64 ((i : Int) - 16) = ((i - 16 : Nat) : Int) := w64_nat (by omega) (by omega)
   have e4 : w64 ((i : Int) - 7) = ((i - 7 : Nat) : Int) := w64_nat (by omega) (by omega)
   rw [bif_true (decide_eq_true (by omega)), e1, e2, e3, e4, gd_pos (by omega), gd_pos (by omega), gd_pos (by omega), gd_pos (by omega)]
   obtain ⟨t1, h1⟩ := turned_ok (vg v ((i - 15 : Nat) : Int)) 7
   obtain ⟨t2, h2⟩ := turned_ok (vg v ((i - 15 : Nat) : Int)) 18
   obtain ⟨t3, h3⟩ := turned_ok (vg v ((i - 2 : Nat) : Int)) 17
   obtain ⟨t4, h4⟩ := turned_ok (vg v ((i - 2 : Nat) : Int)) 19
   rw [h1, Option.bind_some, h2, Option.bind_some, h3, Option.bind_some, h4, Option.bind_some, gd_pos (by omega), w64_nat (x := (i : Int) + 1) (k := i + 1) (by simp) (by omega)]
   exact sched_l1 fuel (i + 1) _ (by omega) (by omega)
  ·rw [bif_false (decide_eq_false (by omega))]
   exact ⟨v, rfl⟩
theorem sched_ok (a : Vector Int 64) : ∃ y, digest_schedule.f a = some y := by
 unfold digest_schedule.f
 obtain ⟨y, h⟩ := sched_l0 a BIG 0 (Vector.replicate 64 0) (by have := BIG_ge; omega)
 rw [show ((0 : Nat) : Int) = 0 from rfl] at h
 rw [h, Option.bind_some]
 obtain ⟨z, h⟩ := sched_l1 BIG 16 y (by have := BIG_ge; omega) (Nat.le_refl _)
 rw [show ((16 : Nat) : Int) = 16 from rfl] at h
 rw [h]
 exact ⟨z, rfl⟩
theorem block_l0 (s : Vector Int 64) : ∀ (fuel i : Nat) (v : Vector Int 8), 64 - i < fuel → ∃ y, digest_Block.l0 s fuel (v, (i : Int)) = some y
 | 0, i, v, h => by omega
 | fuel + 1, i, v, h => by
  rw [digest_Block.l0]
  rcases Nat.lt_or_ge i 64 with hi | hi
  ·obtain ⟨t1, h1⟩ := turned_ok (vg v 4) 6
   obtain ⟨t2, h2⟩ := turned_ok (vg v 4) 11
   obtain ⟨t3, h3⟩ := turned_ok (vg v 4) 25
   obtain ⟨t4, h4⟩ := turned_ok (vg v 0) 2
   obtain ⟨t5, h5⟩ := turned_ok (vg v 0) 13
   obtain ⟨t6, h6⟩ := turned_ok (vg v 0) 22
   have g : ∀ k : Int, 0 ≤ k → k < 8 → 0 ≤ k ∧ k < 8 := fun _ a b => ⟨a, b⟩
   have gi : 0 ≤ (i : Int) ∧ (i : Int) < 64 := by omega
   rw [bif_true (decide_eq_true (by omega))]
   iterate 9 rw [gd_pos (by decide)]
   rw [gd_pos gi, gd_pos gi, h1, Option.bind_some, h2, Option.bind_some, h3, Option.bind_some, h4, Option.bind_some, h5, Option.bind_some, h6, Option.bind_some]
   iterate 7 rw [gd_pos (by decide)]
   rw [w64_nat (x := (i : Int) + 1) (k := i + 1) (by simp) (by omega)]
   exact block_l0 s fuel (i + 1) _ (by omega)
  ·rw [bif_false (decide_eq_false (by omega))]
   exact ⟨v, rfl⟩
theorem block_l1 (s : Vector Int 8) : ∀ (fuel i : Nat) (v : Vector Int 8), 8 - i < fuel → ∃ y, digest_Block.l1 s fuel (v, (i : Int)) = some y
 | 0, i, v, h => by omega
 | fuel + 1, i, v, h => by
  rw [digest_Block.l1]
  rcases Nat.lt_or_ge i 8 with hi | hi
  ·rw [bif_true (decide_eq_true (by omega)), gd_pos (by omega), gd_pos (by omega), gd_pos (by omega), w64_nat (x := (i : Int) + 1) (k := i + 1) (by simp) (by omega)]
   exact block_l1 s fuel (i + 1) _ (by omega)
  ·rw [bif_false (decide_eq_false (by omega))]
   exact ⟨v, rfl⟩
theorem block_ok (h : Vector Int 8) (b : Vector Int 64) : ∃ y, digest_Block.f h b = some y := by
 unfold digest_Block.f
 obtain ⟨s, hs⟩ := sched_ok b
 obtain ⟨y, h0⟩ := block_l0 s BIG 0 h (by have := BIG_ge; omega)
 obtain ⟨z, h1⟩ := block_l1 y BIG 0 h (by have := BIG_ge; omega)
 rw [show ((0 : Nat) : Int) = 0 from rfl] at h0 h1
 rw [hs, Option.bind_some, h0, Option.bind_some, h1]
 exact ⟨z, rfl⟩
theorem size_zero {s : ByteArray} (h : s.size = 0) : s = ⟨#[]⟩ := by
 obtain ⟨a⟩ := s
 have : a.size = 0 := h
 rw [Array.eq_empty_of_size_eq_zero this]
theorem sub_szij {s : ByteArray} {i j : Nat} (h : i ≤ j) (hj : j ≤ s.size) : (sub s (i : Int) (j : Int)).size = j - i := by
 rw [← B_len, B_sub, List.length_drop, List.length_take, B_len]
 simp
 omega
theorem dof_l0 : ∀ (fuel k : Nat) (v : Vector Int 8) (s : ByteArray), s.size = 64 * k → k < fuel → k < 1000000000 → ∃ y, digest_Of.l0 fuel (v, s) = some y
 | 0, k, v, s, _, h, _ => by omega
 | fuel + 1, k, v, s, hs, h, hk => by
  rw [digest_Of.l0, seq_B]
  cases k with
  | zero =>
   rw [bif_false (by rw [size_zero (s := s) (by omega)]; decide)]
   exact ⟨v, rfl⟩
  | succ k =>
   have hne : s ≠ ⟨#[]⟩ := by
    intro e
    subst e
    have : (⟨#[]⟩ : ByteArray).size = 0 := by decide
    omega
   have e1 : (sub s 0 64).size = 64 := sub_szij (i := 0) (j := 64) (by omega) (by omega)
   have e2 : (sub s 64 (s.size : Int)).size = 64 * k := by
    have := sub_szij (s := s) (i := 64) (j := s.size) (by omega) (Nat.le_refl _)
    rw [show ((64 : Nat) : Int) = 64 from rfl] at this
    omega
   rw [bif_true (by simp [hne]), gd_pos (by omega), e1, gd_pos (by omega), nums_len, e1, gd_pos (by omega)]
   obtain ⟨y, hy⟩ := block_ok v (vecN 64 (nums (sub s 0 64)))
   rw [hy, Option.bind_some, gd_pos (by omega)]
   exact dof_l0 fuel k y _ e2 (by omega) (by omega)
theorem dof_l1 (v : Vector Int 8) : ∀ (fuel i : Nat) (X : List Int), 8 - i < fuel → i ≤ 8 → X.length = 4 * i → ∃ Y, digest_Of.l1 v fuel (X, (i : Int)) = some Y ∧ Y.length = 32
 | 0, i, X, h, _, _ => by omega
 | fuel + 1, i, X, h, hi', hX => by
  rw [digest_Of.l1]
  rcases Nat.lt_or_ge i 8 with hi | hi
  ·rw [bif_true (decide_eq_true (by omega)), gd_pos (by omega), gd_pos (by omega), w64_nat (x := (i : Int) + 1) (k := i + 1) (by simp) (by omega)]
   exact dof_l1 v fuel (i + 1) _ (by omega) (by omega) (by simp; omega)
  ·rw [bif_false (decide_eq_false (by omega))]
   exact ⟨X, rfl, by omega⟩
theorem pad_l0 (a : Int) : ∀ (fuel i : Nat) (X : List Int), 8 - i < fuel → i ≤ 8 → X.length ≤ 1000 + i → ∃ Y, digest_Pad.l0 a fuel (X, (i : Int)) = some Y ∧ Y.length = X.length + (8 - i)
 | 0, i, X, h, _, _ => by omega
 | fuel + 1, i, X, h, hi', hX => by
  rw [digest_Pad.l0]
  rcases Nat.lt_or_ge i 8 with hi | hi
  ·have e1 : w64 (7 - (i : Int)) = ((7 - i : Nat) : Int) := w64_nat (by omega) (by omega)
   have e2 : w64 (8 * ((7 - i : Nat) : Int)) = ((8 * (7 - i) : Nat) : Int) := w64_nat (by simp) (by omega)
   rw [bif_true (decide_eq_true (by omega)), e1, e2, gd_pos (by omega), gd_pos (by omega), w64_nat (x := (i : Int) + 1) (k := i + 1) (by simp) (by omega)]
   obtain ⟨Y, h1, h2⟩ := pad_l0 a fuel (i + 1) (X ++ [wu8 (shr .u64 (wu64 ((wu64 (if 0 > a then 0 else a)) * 8)) ((8 * (7 - i) : Nat) : Int))]) (by omega) (by omega) (by simp; omega)
   exact ⟨Y, h1, by rw [h2]; simp; omega⟩
  ·rw [bif_false (decide_eq_false (by omega))]
   exact ⟨X, rfl, by omega⟩
theorem pad_ok {n : Nat} (hn : n < 1000000000) : ∃ p, digest_Pad.f (n : Int) = some p ∧ ∃ k, n + p.size = 64 * k ∧ k < 100000000 := by
 unfold digest_Pad.f
 have e0 : (if (0 : Int) > (n : Int) then (0 : Int) else (n : Int)) = (n : Int) := if_neg (by omega)
 have e1 : w64 ((n : Int) + 8) = ((n + 8 : Nat) : Int) := w64_nat (by simp) (by omega)
 have e2 : (((n + 8 : Nat) : Int)).tmod 64 = (((n + 8) % 64 : Nat) : Int) := by rw [show (64 : Int) = ((64 : Nat) : Int) from rfl, ← Int.ofNat_tmod]
 have e3 : w64 (63 - (((n + 8) % 64 : Nat) : Int)) = ((63 - (n + 8) % 64 : Nat) : Int) := w64_nat (by omega) (by omega)
 have e4 : w64 (1 + ((63 - (n + 8) % 64 : Nat) : Int)) = ((1 + (63 - (n + 8) % 64) : Nat) : Int) := w64_nat (by omega) (by omega)
 have e5 : w64 (((1 + (63 - (n + 8) % 64) : Nat) : Int) + 8) = ((1 + (63 - (n + 8) % 64) + 8 : Nat) : Int) := w64_nat (by omega) (by omega)
 rw [e0, e1, e2, e3, e4, e5, gd_pos (by omega), gd_pos (by rw [List.length_replicate]; omega)]
 obtain ⟨Y, h1, h2⟩ := pad_l0 (n : Int) BIG 0 ((List.replicate ((1 + (63 - (n + 8) % 64) : Nat) : Int).toNat (0 : Int)).set (0 : Int).toNat 128) (by have := BIG_ge; omega) (by omega) (by rw [List.length_set, List.length_replicate]; omega)
 rw [show ((0 : Nat) : Int) = 0 from rfl] at h1
 rw [h1, Option.bind_some]
 rw [List.length_set, List.length_replicate] at h2
 refine ⟨_, rfl, (n + (1 + (63 - (n + 8) % 64) + 8)) / 64, ?_, by omega⟩
 rw [strOfNums_size, h2]
 omega
theorem digest_any {s : ByteArray} (hs : s.size < 1000000000) : ∃ h, digest_Of.f s = some h ∧ h.size = 32 := by
 unfold digest_Of.f
 obtain ⟨p, h1, k, h2, h3⟩ := pad_ok hs
 rw [h1, Option.bind_some, gd_pos (by omega)]
 obtain ⟨y, h4⟩ := dof_l0 BIG k glob_0 (s ++ p) (by rw [app_size]; omega) (by have := BIG_ge; omega) (by omega)
 rw [h4, Option.bind_some]
 obtain ⟨Y, h5, h6⟩ := dof_l1 y BIG 0 [] (by have := BIG_ge; omega) (by omega) rfl
 rw [show ((0 : Nat) : Int) = 0 from rfl] at h5
 rw [h5]
 exact ⟨_, rfl, by rw [strOfNums_size, h6]⟩
/-- A text's digest. -/
noncomputable def dg (s : ByteArray) : ByteArray := (digest_Of.f s).getD ⟨#[]⟩
theorem dg_ok {s : ByteArray} (hs : s.size < 1000000000) : digest_Of.f s = some (dg s) ∧ (dg s).size = 32 := by
 obtain ⟨h, h1, h2⟩ := digest_any hs
 have : dg s = h := by unfold dg; rw [h1]; rfl
 rw [this]
 exact ⟨h1, h2⟩
end Go.Lf
