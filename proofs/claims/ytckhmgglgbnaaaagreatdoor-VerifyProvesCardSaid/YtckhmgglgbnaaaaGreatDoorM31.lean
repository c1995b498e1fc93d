/- How many bits a mask has. -/
import Derived.Test.YtckhmgglgbnaaaaGreatDoorM30
set_option linter.unusedVariables false
set_option linter.unusedSimpArgs false
namespace Go.Lf
open Go
theorem wrap64_nat (x : Nat) : IntKind.wrap .u64 (x : Int) = ((x % 18446744073709551616 : Nat) : Int) := by
 simp only [IntKind.wrap, IntKind.bits, IntKind.signed]
 simp
theorem ofInt_nat (x : Nat) : BitVec.ofInt 64 (x : Int) = BitVec.ofNat 64 x := by
 apply BitVec.eq_of_toNat_eq
 simp
theorem band64 (x y : Nat) (hx : x < 18446744073709551616) (hy : y < 18446744073709551616) : band .u64 (x : Int) (y : Int) = ((x &&& y : Nat) : Int) := by
 unfold band
 have h1 : (IntKind.bits .u64) = 64 := rfl
 rw [h1, ofInt_nat, ofInt_nat, wrap64_nat]
 congr 1
 rw [BitVec.toNat_and, BitVec.toNat_ofNat, BitVec.toNat_ofNat, Nat.mod_eq_of_lt hx, Nat.mod_eq_of_lt hy]
 exact Nat.mod_eq_of_lt (Nat.lt_of_le_of_lt Nat.and_le_left hx)
theorem shr64 (x n : Nat) (hn : n ≤ 64) : shr .u64 (x : Int) (n : Int) = ((x >>> n : Nat) : Int) := by
 unfold shr
 have h1 : (IntKind.bits .u64) = 64 := rfl
 rw [h1, Int.toNat_natCast, Nat.min_eq_left hn, Nat.shiftRight_eq_div_pow]
 have : (2 : Int) ^ n = ((2 ^ n : Nat) : Int) := by simp
 rw [this, Int.fdiv_eq_ediv_of_nonneg _ (Int.natCast_nonneg _)]
 simp
def k1 (x : Int) : Int := wu64 ((band .u64 (shr .u64 x 1) 6148914691236517205) + (band .u64 x 6148914691236517205))
def k2 (x : Int) : Int := wu64 ((band .u64 (shr .u64 x 2) 3689348814741910323) + (band .u64 x 3689348814741910323))
def k3 (x : Int) : Int := band .u64 (wu64 ((shr .u64 x 4) + x)) 1085102592571150095
def k4 (x : Int) : Int := wu64 (x + (shr .u64 x 8))
def k5 (x : Int) : Int := wu64 (x + (shr .u64 x 16))
def k6 (x : Int) : Int := wu64 (x + (shr .u64 x 32))
theorem ones_def (a : Int) : math_bits_OnesCount64.f a = some (band .i64 (w64 (k6 (k5 (k4 (k3 (k2 (k1 a))))))) 127) := rfl
def n1 (x : Nat) : Nat := (Nat.land (Nat.shiftRight x 1) 6148914691236517205 + Nat.land x 6148914691236517205) % 18446744073709551616
def n2 (x : Nat) : Nat := (Nat.land (Nat.shiftRight x 2) 3689348814741910323 + Nat.land x 3689348814741910323) % 18446744073709551616
def n3 (x : Nat) : Nat := Nat.land ((Nat.shiftRight x 4 + x) % 18446744073709551616) 1085102592571150095
def n4 (x : Nat) : Nat := (x + Nat.shiftRight x 8) % 18446744073709551616
def n5 (x : Nat) : Nat := (x + Nat.shiftRight x 16) % 18446744073709551616
def n6 (x : Nat) : Nat := (x + Nat.shiftRight x 32) % 18446744073709551616
theorem sr_le (x n : Nat) : x >>> n ≤ x := by rw [Nat.shiftRight_eq_div_pow]; exact Nat.div_le_self _ _
theorem k1_nat {x : Nat} (h : x < 18446744073709551616) : k1 (x : Int) = ((n1 x : Nat) : Int) ∧ n1 x < 18446744073709551616 := by
 refine ⟨?_, Nat.mod_lt _ (by decide)⟩
 unfold k1
 have h1 := shr64 x 1 (by decide)
 have h2 := sr_le x 1
 rw [show ((1 : Nat) : Int) = 1 from rfl] at h1
 rw [h1, show (6148914691236517205 : Int) = ((6148914691236517205 : Nat) : Int) from rfl, band64 _ _ (by omega) (by decide), band64 _ _ h (by decide), ← Int.natCast_add]
 exact wrap64_nat _
theorem k2_nat {x : Nat} (h : x < 18446744073709551616) : k2 (x : Int) = ((n2 x : Nat) : Int) ∧ n2 x < 18446744073709551616 := by
 refine ⟨?_, Nat.mod_lt _ (by decide)⟩
 unfold k2
 have h1 := shr64 x 2 (by decide)
 have h2 := sr_le x 2
 rw [show ((2 : Nat) : Int) = 2 from rfl] at h1
 rw [h1, show (3689348814741910323 : Int) = ((3689348814741910323 : Nat) : Int) from rfl, band64 _ _ (by omega) (by decide), band64 _ _ h (by decide), ← Int.natCast_add]
 exact wrap64_nat _
theorem k3_nat {x : Nat} (h : x < 18446744073709551616) : k3 (x : Int) = ((n3 x : Nat) : Int) ∧ n3 x < 18446744073709551616 := by
 refine ⟨?_, Nat.lt_of_le_of_lt Nat.and_le_right (by decide)⟩
 unfold k3
 have h1 := shr64 x 4 (by decide)
 rw [show ((4 : Nat) : Int) = 4 from rfl] at h1
 have h3 := wrap64_nat ((x >>> 4) + x)
 rw [h1, ← Int.natCast_add, show wu64 (((x >>> 4 + x : Nat) : Int)) = _ from h3, show (1085102592571150095 : Int) = ((1085102592571150095 : Nat) : Int) from rfl, band64 _ _ (Nat.mod_lt _ (by decide)) (by decide)]
 rfl
theorem k4_nat {x : Nat} (h : x < 18446744073709551616) : k4 (x : Int) = ((n4 x : Nat) : Int) ∧ n4 x < 18446744073709551616 := by
 refine ⟨?_, Nat.mod_lt _ (by decide)⟩
 unfold k4
 have h1 := shr64 x 8 (by decide)
 rw [show ((8 : Nat) : Int) = 8 from rfl] at h1
 rw [h1, ← Int.natCast_add]
 exact wrap64_nat _
theorem k5_nat {x : Nat} (h : x < 18446744073709551616) : k5 (x : Int) = ((n5 x : Nat) : Int) ∧ n5 x < 18446744073709551616 := by
 refine ⟨?_, Nat.mod_lt _ (by decide)⟩
 unfold k5
 have h1 := shr64 x 16 (by decide)
 rw [show ((16 : Nat) : Int) = 16 from rfl] at h1
 rw [h1, ← Int.natCast_add]
 exact wrap64_nat _
theorem k6_nat {x : Nat} (h : x < 18446744073709551616) : k6 (x : Int) = ((n6 x : Nat) : Int) ∧ n6 x < 18446744073709551616 := by
 refine ⟨?_, Nat.mod_lt _ (by decide)⟩
 unfold k6
 have h1 := shr64 x 32 (by decide)
 rw [show ((32 : Nat) : Int) = 32 from rfl] at h1
 rw [h1, ← Int.natCast_add]
 exact wrap64_nat _
def nn (x : Nat) : Nat := n6 (n5 (n4 (n3 (n2 (n1 x)))))
/-- The number of ones among the first k bits. -/
def popc : Nat → Nat → Nat
 | 0, _ => 0
 | k + 1, m => m % 2 + popc k (m / 2)
theorem popc_le : ∀ k m, popc k m ≤ k
 | 0, m => Nat.le_refl _
 | k + 1, m => by
  have := popc_le k (m / 2)
  rw [popc]
  omega
def allB (p : Nat → Bool) : Nat → Nat → Bool
 | 0, m => p m
 | k + 1, m => allB p k (2 * m) && allB p k (2 * m + 1)
theorem allB_ok {p : Nat → Bool} : ∀ {k m : Nat}, allB p k m = true → ∀ i, m * 2 ^ k ≤ i → i < (m + 1) * 2 ^ k → p i = true
 | 0, m, h, i, h1, h2 => by
  have : i = m := by omega
  subst this
  exact h
 | k + 1, m, h, i, h1, h2 => by
  simp only [allB, Bool.and_eq_true] at h
  have e1 : m * 2 ^ (k + 1) = 2 * m * 2 ^ k := by rw [Nat.pow_succ]; ac_rfl
  have e2 : (m + 1) * 2 ^ (k + 1) = (2 * m + 1 + 1) * 2 ^ k := by rw [Nat.pow_succ, show 2 * m + 1 + 1 = 2 * (m + 1) by omega]; ac_rfl
  rcases Nat.lt_or_ge i ((2 * m + 1) * 2 ^ k) with hi | hi
  ·exact allB_ok h.1 i (by omega) hi
  ·exact allB_ok h.2 i hi (by omega)
set_option maxRecDepth 100000 in
theorem nn_table : allB (fun m => Nat.beq (Nat.land (nn m) 127) (popc 16 m)) 16 0 = true := by kernel_rfl
theorem wrapi64_nat {x : Nat} (h : x < 9223372036854775808) : IntKind.wrap .i64 (x : Int) = (x : Int) := w64_id (by omega)
theorem ones_ok {m : Nat} (h : m < 65536) : math_bits_OnesCount.f (m : Int) = some ((popc 16 m : Nat) : Int) := by
 unfold math_bits_OnesCount.f
 obtain ⟨a1, b1⟩ := k1_nat (x := m) (by omega)
 obtain ⟨a2, b2⟩ := k2_nat b1
 obtain ⟨a3, b3⟩ := k3_nat b2
 obtain ⟨a4, b4⟩ := k4_nat b3
 obtain ⟨a5, b5⟩ := k5_nat b4
 obtain ⟨a6, b6⟩ := k6_nat b5
 rw [ones_def, a1, a2, a3, a4, a5, a6, Option.bind_some]
 congr 1
 have ht := allB_ok nn_table m (by omega) (by omega)
 have hb : Nat.land (nn m) 127 = popc 16 m := Nat.eq_of_beq_eq_true ht
 have h6 : n6 (n5 (n4 (n3 (n2 (n1 m))))) = nn m := rfl
 rw [h6] at b6 ⊢
 unfold band
 have e1 : (IntKind.bits .i64) = 64 := rfl
 have e2 : BitVec.ofInt 64 (w64 ((nn m : Nat) : Int)) = BitVec.ofNat 64 (nn m) := by
  apply BitVec.eq_of_toNat_eq
  have e3 : w64 ((nn m : Nat) : Int) = (if ((nn m : Nat) : Int) < 9223372036854775808 then ((nn m : Nat) : Int) else ((nn m : Nat) : Int) - 18446744073709551616) := by
   simp only [w64, IntKind.wrap, IntKind.bits, IntKind.signed, Bool.true_and]
   simp
   split <;> split <;> omega
  rw [e3]
  simp only [BitVec.toNat_ofInt, BitVec.toNat_ofNat]
  split <;> omega
 rw [e1, e2, show (127 : Int) = ((127 : Nat) : Int) from rfl, ofInt_nat, BitVec.toNat_and, BitVec.toNat_ofNat, BitVec.toNat_ofNat, Nat.mod_eq_of_lt b6, Nat.mod_eq_of_lt (by decide : 127 < 2 ^ 64)]
 have hl : nn m &&& 127 ≤ 127 := Nat.and_le_right
 rw [wrapi64_nat (by omega)]
 exact congrArg _ hb
end Go.Lf
