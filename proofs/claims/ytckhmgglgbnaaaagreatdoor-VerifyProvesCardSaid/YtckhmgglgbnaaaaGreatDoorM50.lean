/- The document's digest is the program's. -/
import Derived.Test.YtckhmgglgbnaaaaGreatDoorM30
set_option linter.unusedVariables false
set_option linter.unusedSimpArgs false
namespace Go.Lf
open Go
theorem bor_comm (k : IntKind) (x y : Int) : bor k x y = bor k y x := by unfold bor; rw [BitVec.or_comm]
theorem turn_of (x : Int) {k : Int} (r : Int) (h1 : band .u64 (wu64 (w64 (0 - k))) 31 = r) (h2 : wu64 (32 - k) = r) (h3 : wu64 (32 - r) = k) (h4 : 0 ≤ k) (h5 : 0 ≤ r) : ref04_turn.f x k = digest_turned.f x k := by
 unfold ref04_turn.f digest_turned.f math_bits_RotateLeft32.f
 rw [h1, h2, h3, gd_pos h4, gd_pos h5, gd_pos h5, gd_pos h4, bor_comm]
 rfl
theorem turn2 (x : Int) : ref04_turn.f x 2 = digest_turned.f x 2 := turn_of x 30 (by decide +kernel) (by decide +kernel) (by decide +kernel) (by decide) (by decide)
theorem turn6 (x : Int) : ref04_turn.f x 6 = digest_turned.f x 6 := turn_of x 26 (by decide +kernel) (by decide +kernel) (by decide +kernel) (by decide) (by decide)
theorem turn7 (x : Int) : ref04_turn.f x 7 = digest_turned.f x 7 := turn_of x 25 (by decide +kernel) (by decide +kernel) (by decide +kernel) (by decide) (by decide)
theorem turn11 (x : Int) : ref04_turn.f x 11 = digest_turned.f x 11 := turn_of x 21 (by decide +kernel) (by decide +kernel) (by decide +kernel) (by decide) (by decide)
theorem turn13 (x : Int) : ref04_turn.f x 13 = digest_turned.f x 13 := turn_of x 19 (by decide +kernel) (by decide +kernel) (by decide +kernel) (by decide) (by decide)
theorem turn17 (x : Int) : ref04_turn.f x 17 = digest_turned.f x 17 := turn_of x 15 (by decide +kernel) (by decide +kernel) (by decide +kernel) (by decide) (by decide)
theorem turn18 (x : Int) : ref04_turn.f x 18 = digest_turned.f x 18 := turn_of x 14 (by decide +kernel) (by decide +kernel) (by decide +kernel) (by decide) (by decide)
theorem turn19 (x : Int) : ref04_turn.f x 19 = digest_turned.f x 19 := turn_of x 13 (by decide +kernel) (by decide +kernel) (by decide +kernel) (by decide) (by decide)
theorem turn22 (x : Int) : ref04_turn.f x 22 = digest_turned.f x 22 := turn_of x 10 (by decide +kernel) (by decide +kernel) (by decide +kernel) (by decide) (by decide)
theorem turn25 (x : Int) : ref04_turn.f x 25 = digest_turned.f x 25 := turn_of x 7 (by decide +kernel) (by decide +kernel) (by decide +kernel) (by decide) (by decide)
theorem wu32_mod (x : Int) : wu32 x = x % 4294967296 := by
 simp only [wu32, IntKind.wrap, IntKind.bits, IntKind.signed]
 simp
theorem wu32_id {x : Int} (h : 0 ≤ x ∧ x < 4294967296) : wu32 x = x := by rw [wu32_mod]; omega
theorem wu64_id {x : Int} (h : 0 ≤ x ∧ x < 18446744073709551616) : wu64 x = x := by
 simp only [wu64, IntKind.wrap, IntKind.bits, IntKind.signed]
 simp
 omega
theorem add3 (a b c : Int) : wu32 (wu32 (a + b) + c) = wu32 (wu32 (a + c) + b) := by
 simp only [wu32_mod]
 omega
theorem shl_nat {x n : Nat} (hn : n ≤ 24) (h : x * 2 ^ n < 4294967296) : shl .u32 (x : Int) (n : Int) = ((x * 2 ^ n : Nat) : Int) := by
 unfold shl
 rw [Int.toNat_natCast, show IntKind.bits .u32 = 32 from rfl, Nat.min_eq_left (by omega)]
 have : (x : Int) * (2 : Int) ^ n = ((x * 2 ^ n : Nat) : Int) := by simp
 rw [this]
 exact wu32_id (by omega)
theorem bor_nat {x y n : Nat} (hy : y < 2 ^ n) (h : x * 2 ^ n + y < 4294967296) : bor .u32 ((x * 2 ^ n : Nat) : Int) (y : Int) = ((x * 2 ^ n + y : Nat) : Int) := by
 unfold bor
 rw [show IntKind.bits .u32 = 32 from rfl]
 have o1 : ∀ z : Nat, BitVec.ofInt 32 (z : Int) = BitVec.ofNat 32 z := fun z => by simp
 rw [o1, o1, BitVec.toNat_or, BitVec.toNat_ofNat, BitVec.toNat_ofNat, Nat.mod_eq_of_lt (by omega), Nat.mod_eq_of_lt (by omega)]
 have e : x * 2 ^ n ||| y = x * 2 ^ n + y := by
  have := Nat.two_pow_add_eq_or_of_lt hy x
  rw [Nat.mul_comm, ← this]
 rw [e]
 exact wu32_id (by omega)
theorem sh8 {x : Nat} (h : x < 16777216) : shl .u32 (x : Int) 8 = ((x * 256 : Nat) : Int) := shl_nat (n := 8) (by omega) (by omega)
theorem sh16 {x : Nat} (h : x < 65536) : shl .u32 (x : Int) 16 = ((x * 65536 : Nat) : Int) := shl_nat (n := 16) (by omega) (by omega)
theorem sh24 {x : Nat} (h : x < 256) : shl .u32 (x : Int) 24 = ((x * 16777216 : Nat) : Int) := shl_nat (n := 24) (by omega) (by omega)
theorem bo8 {x y : Nat} (hy : y < 256) (h : x * 256 + y < 4294967296) : bor .u32 ((x * 256 : Nat) : Int) (y : Int) = ((x * 256 + y : Nat) : Int) := bor_nat (n := 8) (by omega) (by omega)
theorem bo16 {x y : Nat} (hy : y < 65536) (h : x * 65536 + y < 4294967296) : bor .u32 ((x * 65536 : Nat) : Int) (y : Int) = ((x * 65536 + y : Nat) : Int) := bor_nat (n := 16) (by omega) (by omega)
theorem bo24 {x y : Nat} (hy : y < 16777216) (h : x * 16777216 + y < 4294967296) : bor .u32 ((x * 16777216 : Nat) : Int) (y : Int) = ((x * 16777216 + y : Nat) : Int) := bor_nat (n := 24) (by omega) (by omega)
theorem four {a b c d : Nat} (ha : a < 256) (hb : b < 256) (hc : c < 256) (hd : d < 256) : bor .u32 (shl .u32 (bor .u32 (shl .u32 (bor .u32 (shl .u32 (bor .u32 (shl .u32 0 8) (wu32 (a : Int))) 8) (wu32 (b : Int))) 8) (wu32 (c : Int))) 8) (wu32 (d : Int)) = bor .u32 (bor .u32 (bor .u32 (shl .u32 (wu32 (a : Int)) 24) (shl .u32 (wu32 (b : Int)) 16)) (shl .u32 (wu32 (c : Int)) 8)) (wu32 (d : Int)) := by
 rw [wu32_id (x := (a : Int)) (by omega), wu32_id (x := (b : Int)) (by omega), wu32_id (x := (c : Int)) (by omega), wu32_id (x := (d : Int)) (by omega)]
 rw [show shl .u32 0 8 = ((0 * 256 : Nat) : Int) from sh8 (x := 0) (by omega), bo8 ha (by omega), sh8 (by omega), bo8 hb (by omega), sh8 (by omega), bo8 hc (by omega), sh8 (by omega), bo8 hd (by omega)]
 rw [sh24 ha, sh16 (by omega), sh8 (x := c) (by omega), bo24 (by omega) (by omega), show a * 16777216 + b * 65536 = (a * 256 + b) * 65536 by omega, bo16 (by omega) (by omega), show (a * 256 + b) * 65536 + c * 256 = ((a * 256 + b) * 256 + c) * 256 by omega, bo8 hd (by omega)]
 simp only [Nat.zero_mul, Nat.zero_add]
theorem nbind {α β : Type} (f : α → Option β) : (none : Option α).bind f = none := rfl
theorem vext {m : Nat} {u v : Vector Int m} (h : ∀ j : Nat, j < m → vg u (j : Int) = vg v (j : Int)) : u = v := by
 apply Vector.ext
 intro i hi
 have := h i hi
 rw [vg_nat, vg_nat, List.getD_eq_getElem?_getD, List.getD_eq_getElem?_getD, List.getElem?_eq_getElem (by simpa using hi), List.getElem?_eq_getElem (by simpa using hi)] at this
 simpa using this
theorem vset_vset {m : Nat} (v : Vector Int m) {i : Nat} (x y : Int) (hi : i < m) : vset (vset v (i : Int) x) (i : Int) y = vset v (i : Int) y := by
 apply vext
 intro j hj
 rw [vg_set _ _ hi, vg_set _ _ hi, vg_set _ _ hi]
 split <;> rfl
/-- Four bytes as one number. -/
def be (p : Vector Int 64) (m : Nat) : Int := bor .u32 (bor .u32 (bor .u32 (shl .u32 (wu32 (vg p ((4 * m : Nat) : Int))) 24) (shl .u32 (wu32 (vg p ((4 * m + 1 : Nat) : Int))) 16)) (shl .u32 (wu32 (vg p ((4 * m + 2 : Nat) : Int))) 8)) (wu32 (vg p ((4 * m + 3 : Nat) : Int)))
def Byt (p : Vector Int 64) : Prop := ∀ j : Nat, j < 64 → ∃ b : Nat, b < 256 ∧ vg p (j : Int) = (b : Int)
theorem sch_one (p v : Vector Int 64) {i m : Nat} (hi : i < 64) (hm : i / 4 = m) (fuel : Nat) : digest_schedule.l0 p (fuel + 1) (v, (i : Int)) = digest_schedule.l0 p fuel (vset v (m : Int) (bor .u32 (shl .u32 (vg v (m : Int)) 8) (wu32 (vg p (i : Int)))), ((i + 1 : Nat) : Int)) := by
 have e : w64 ((i : Int).tdiv 4) = (m : Int) := by
  rw [← hm]
  exact w64_nat (by rw [show (4 : Int) = ((4 : Nat) : Int) from rfl, ← Int.ofNat_tdiv]) (by omega)
 rw [digest_schedule.l0, bif_true (decide_eq_true (by omega)), e, gd_pos (by omega), gd_pos (by omega), gd_pos (by omega), w64_nat (x := (i : Int) + 1) (k := i + 1) (by simp) (by omega)]
theorem sch_four {p : Vector Int 64} (hp : Byt p) (v : Vector Int 64) {m : Nat} (hm : m < 16) (h0 : vg v (m : Int) = 0) (fuel : Nat) : digest_schedule.l0 p (fuel + 4) (v, ((4 * m : Nat) : Int)) = digest_schedule.l0 p fuel (vset v (m : Int) (be p m), ((4 * (m + 1) : Nat) : Int)) := by
 have h64 : m < 64 := by omega
 rw [show fuel + 4 = fuel + 3 + 1 from rfl, sch_one p v (i := 4 * m) (m := m) (by omega) (by omega), show fuel + 3 = fuel + 2 + 1 from rfl, sch_one p _ (i := 4 * m + 1) (m := m) (by omega) (by omega), show fuel + 2 = fuel + 1 + 1 from rfl, sch_one p _ (i := 4 * m + 1 + 1) (m := m) (by omega) (by omega), sch_one p _ (i := 4 * m + 1 + 1 + 1) (m := m) (by omega) (by omega)]
 simp only [vg_set _ _ h64, if_pos, vset_vset _ _ _ h64]
 rw [h0]
 obtain ⟨a, a1, a2⟩ := hp (4 * m) (by omega)
 obtain ⟨b, b1, b2⟩ := hp (4 * m + 1) (by omega)
 obtain ⟨c, c1, c2⟩ := hp (4 * m + 2) (by omega)
 obtain ⟨d, d1, d2⟩ := hp (4 * m + 3) (by omega)
 unfold be
 rw [show 4 * m + 1 + 1 = 4 * m + 2 from rfl, show 4 * m + 2 + 1 = 4 * m + 3 from rfl, a2, b2, c2, d2, four a1 b1 c1 d1]
 rfl
theorem stp_one (p v : Vector Int 64) {m : Nat} (hm : m < 16) (fuel : Nat) : ref04_Step.l0 p (fuel + 1) (v, (m : Int)) = ref04_Step.l0 p fuel (vset v (m : Int) (be p m), ((m + 1 : Nat) : Int)) := by
 have e0 : w64 (4 * (m : Int)) = ((4 * m : Nat) : Int) := w64_nat (by simp) (by omega)
 have e1 : w64 (((4 * m : Nat) : Int) + 1) = ((4 * m + 1 : Nat) : Int) := w64_nat (by simp) (by omega)
 have e2 : w64 (((4 * m : Nat) : Int) + 2) = ((4 * m + 2 : Nat) : Int) := w64_nat (by simp) (by omega)
 have e3 : w64 (((4 * m : Nat) : Int) + 3) = ((4 * m + 3 : Nat) : Int) := w64_nat (by simp) (by omega)
 rw [ref04_Step.l0, bif_true (decide_eq_true (by omega)), bif_true (decide_eq_true (by omega)), e0, e1, e2, e3, gd_pos (by omega), gd_pos (by omega), gd_pos (by omega), gd_pos (by omega), gd_pos (by omega), w64_nat (x := (m : Int) + 1) (k := m + 1) (by simp) (by omega)]
 rfl
theorem sch_fill {p : Vector Int 64} (hp : Byt p) (fuel fuel2 : Nat) : ∀ (n m : Nat) (v : Vector Int 64), m + n = 16 → (∀ j : Nat, m ≤ j → j < 64 → vg v (j : Int) = 0) → ∃ v', digest_schedule.l0 p (fuel + 4 * n) (v, ((4 * m : Nat) : Int)) = digest_schedule.l0 p fuel (v', ((64 : Nat) : Int)) ∧ ref04_Step.l0 p (fuel2 + n) (v, (m : Int)) = ref04_Step.l0 p fuel2 (v', ((16 : Nat) : Int))
 | 0, m, v, hm, _ => by
  obtain rfl : m = 16 := by omega
  exact ⟨v, rfl, rfl⟩
 | n + 1, m, v, hm, h0 => by
  obtain ⟨v', h1, h2⟩ := sch_fill hp fuel fuel2 n (m + 1) (vset v (m : Int) (be p m)) (by omega) (fun j hj hj' => by rw [vg_set _ _ (show m < 64 by omega), if_neg (by omega)]; exact h0 j (by omega) hj')
  refine ⟨v', ?_, ?_⟩
  ·rw [show fuel + 4 * (n + 1) = fuel + 4 * n + 4 by omega, sch_four hp v (by omega) (h0 m (Nat.le_refl _) (by omega)), h1]
  ·rw [show fuel2 + (n + 1) = fuel2 + n + 1 by omega, stp_one p v (by omega), h2]
theorem sch_rest (p : Vector Int 64) : ∀ (fuel fuel2 i : Nat) (v : Vector Int 64), 64 - i < fuel → 64 - i < fuel2 → 16 ≤ i → ref04_Step.l0 p fuel (v, (i : Int)) = digest_schedule.l1 fuel2 (v, (i : Int))
 | 0, _, i, v, h, _, _ => by omega
 | _ + 1, 0, i, v, _, h, _ => by omega
 | fuel + 1, fuel2 + 1, i, v, h, h2, h16 => by
  rw [ref04_Step.l0, digest_schedule.l1]
  rcases Nat.lt_or_ge i 64 with hi | hi
  ·have e1 : w64 ((i : Int) - 15) = ((i - 15 : Nat) : Int) := w64_nat (by omega) (by omega)
   have e2 : w64 ((i : Int) - 2) = ((i - 2 : Nat) : Int) := w64_nat (by omega) (by omega)
   have e3 : w64 ((i : Int) - 16) = ((i - 16 : Nat) : Int) := w64_nat (by omega) (by omega)
   have e4 : w64 ((i : Int) - 7) = ((i - 7 : Nat) : Int) := w64_nat (by omega) (by omega)
   obtain ⟨t1, h1⟩ := turned_ok (vg v ((i - 15 : Nat) : Int)) 7
   obtain ⟨t2, h2'⟩ := turned_ok (vg v ((i - 15 : Nat) : Int)) 18
   obtain ⟨t3, h3⟩ := turned_ok (vg v ((i - 2 : Nat) : Int)) 17
   obtain ⟨t4, h4⟩ := turned_ok (vg v ((i - 2 : Nat) : Int)) 19
   rw [bif_true (decide_eq_true (by omega)), bif_false (decide_eq_false (by omega)), bif_true (decide_eq_true (by omega)), e1, e2, e3, e4]
   rw [gd_pos (by omega), gd_pos (by omega), gd_pos (by omega), gd_pos (by omega), turn7, h1, Option.bind_some, turn18, h2', Option.bind_some, turn17, h3, Option.bind_some, turn19, h4, Option.bind_some, gd_pos (by omega), Option.bind_some]
   rw [gd_pos (by omega), gd_pos (by omega), gd_pos (by omega), gd_pos (by omega), Option.bind_some, Option.bind_some, Option.bind_some, Option.bind_some, gd_pos (by omega), add3 (vg v ((i - 16 : Nat) : Int)), w64_nat (x := (i : Int) + 1) (k := i + 1) (by simp) (by omega)]
   exact sch_rest p fuel fuel2 (i + 1) _ (by omega) (by omega) (by omega)
  ·rw [bif_false (decide_eq_false (by omega)), bif_false (decide_eq_false (by omega))]
theorem rnd_eq (w : Vector Int 64) : ∀ (fuel i : Nat) (v : Vector Int 8), ref04_Step.l1 glob_1 w fuel (v, (i : Int)) = digest_Block.l0 w fuel (v, (i : Int))
 | 0, i, v => rfl
 | fuel + 1, i, v => by
  rw [ref04_Step.l1, digest_Block.l0]
  rcases Nat.lt_or_ge i 64 with hi | hi
  ·obtain ⟨t1, h1⟩ := turned_ok (vg v 4) 6
   obtain ⟨t2, h2⟩ := turned_ok (vg v 4) 11
   obtain ⟨t3, h3⟩ := turned_ok (vg v 4) 25
   obtain ⟨t4, h4⟩ := turned_ok (vg v 0) 2
   obtain ⟨t5, h5⟩ := turned_ok (vg v 0) 13
   obtain ⟨t6, h6⟩ := turned_ok (vg v 0) 22
   have gi : 0 ≤ (i : Int) ∧ (i : Int) < 64 := by omega
   rw [bif_true (decide_eq_true gi.2), bif_true (decide_eq_true gi.2)]
   iterate 5 rw [gd_pos (by decide)]
   rw [gd_pos gi, gd_pos gi, turn6, h1, Option.bind_some, turn11, h2, Option.bind_some, turn25, h3, Option.bind_some]
   iterate 4 rw [gd_pos (by decide)]
   rw [turn2, h4, Option.bind_some, turn13, h5, Option.bind_some, turn22, h6, Option.bind_some]
   iterate 7 rw [gd_pos (by decide)]
   iterate 9 rw [gd_pos (by decide)]
   rw [gd_pos gi, gd_pos gi]
   iterate 6 rw [Option.bind_some]
   iterate 7 rw [gd_pos (by decide)]
   rw [w64_nat (x := (i : Int) + 1) (k := i + 1) (by simp) (by omega)]
   exact rnd_eq w fuel (i + 1) _
  ·rw [bif_false (decide_eq_false (by omega)), bif_false (decide_eq_false (by omega))]
theorem sum_eq (s : Vector Int 8) : ∀ (fuel i : Nat) (v : Vector Int 8), ref04_Step.l2 s fuel (v, (i : Int)) = digest_Block.l1 s fuel (v, (i : Int))
 | 0, i, v => rfl
 | fuel + 1, i, v => by
  rw [ref04_Step.l2, digest_Block.l1]
  rcases Nat.lt_or_ge i 8 with hi | hi
  ·have gi : 0 ≤ (i : Int) ∧ (i : Int) < 8 := by omega
   rw [bif_true (decide_eq_true gi.2), bif_true (decide_eq_true gi.2)]
   iterate 6 rw [gd_pos gi]
   rw [w64_nat (x := (i : Int) + 1) (k := i + 1) (by simp) (by omega)]
   exact sum_eq s fuel (i + 1) _
  ·rw [bif_false (decide_eq_false (by omega)), bif_false (decide_eq_false (by omega))]
theorem step_eq {p : Vector Int 64} (hp : Byt p) (v : Vector Int 8) : ref04_Step.f v p glob_1 = digest_Block.f v p := by
 unfold ref04_Step.f digest_Block.f digest_schedule.f
 have hb := BIG_ge
 obtain ⟨v', h1, h2⟩ := sch_fill hp (BIG - 64) (BIG - 16) 16 0 (Vector.replicate 64 0) rfl (fun j _ _ => vg_zero j)
 rw [show BIG - 64 + 4 * 16 = BIG by omega, show ((4 * 0 : Nat) : Int) = 0 from rfl] at h1
 rw [show BIG - 16 + 16 = BIG by omega, show ((0 : Nat) : Int) = 0 from rfl] at h2
 obtain ⟨f, hf⟩ : ∃ f, BIG - 64 = f + 1 := ⟨BIG - 65, by omega⟩
 rw [hf, digest_schedule.l0, bif_false (decide_eq_false (by omega))] at h1
 rw [h1, h2, sch_rest p (BIG - 16) BIG 16 v' (by omega) (by omega) (Nat.le_refl _), Option.bind_some]
 rw [show ((16 : Nat) : Int) = 16 from rfl]
 cases digest_schedule.l1 BIG (v', 16) with
 | none => simp only [nbind]
 | some w =>
  have e1 := rnd_eq w BIG 0 v
  rw [show ((0 : Nat) : Int) = 0 from rfl] at e1
  rw [Option.bind_some, Option.bind_some, Option.bind_some, e1]
  cases digest_Block.l0 w BIG (v, 0) with
  | none => simp only [nbind]
  | some z =>
   have e2 := sum_eq z BIG 0 v
   rw [show ((0 : Nat) : Int) = 0 from rfl] at e2
   rw [Option.bind_some, Option.bind_some, e2]
theorem nums_B (s : ByteArray) : nums s = (B s).map fun x : Nat => (x : Int) := by simp [nums, B]
theorem vg_vecN {m : Nat} (xs : List Int) {j : Nat} (h : j < m) : vg (vecN m xs) (j : Int) = xs.getD j 0 := by
 rw [vg_nat]
 simp [vecN, List.getD_eq_getElem?_getD, List.getElem?_ofFn, h]
theorem fill_l1 (s pad : ByteArray) {o : Nat} (ho : o + 64 ≤ (s ++ pad).size) (hz : (s ++ pad).size < 1000000000000) : ∀ (fuel i : Nat) (v : Vector Int 64), 64 - i < fuel → ∃ v', ref04_With.l1 s pad (o : Int) fuel (v, (i : Int)) = some v' ∧ ∀ j : Nat, j < 64 → vg v' (j : Int) = if i ≤ j then bt (s ++ pad) ((o + j : Nat) : Int) else vg v (j : Int)
 | 0, i, v, h => by omega
 | fuel + 1, i, v, h => by
  rw [ref04_With.l1]
  rcases Nat.lt_or_ge i 64 with hi | hi
  ·have e : w64 ((o : Int) + (i : Int)) = ((o + i : Nat) : Int) := w64_nat (by simp) (by omega)
   rw [bif_true (decide_eq_true (by omega)), e, gd_pos (by omega), gd_pos (by omega), w64_nat (x := (i : Int) + 1) (k := i + 1) (by simp) (by omega)]
   obtain ⟨v', h1, h2⟩ := fill_l1 s pad ho hz fuel (i + 1) (vset v (i : Int) (bt (s ++ pad) ((o + i : Nat) : Int))) (by omega)
   refine ⟨v', h1, fun j hj => ?_⟩
   rw [h2 j hj, vg_set _ _ hi]
   by_cases c : i = j
   ·subst c
    rw [if_neg (by omega), if_pos rfl, if_pos (Nat.le_refl _)]
   ·by_cases c2 : i ≤ j
    ·rw [if_pos (by omega), if_pos c2]
    ·rw [if_neg (by omega), if_neg c, if_neg c2]
  ·rw [bif_false (decide_eq_false (by omega))]
   exact ⟨v, rfl, fun j hj => by rw [if_neg (by omega)]⟩
theorem with_l0 (s pad : ByteArray) (hz : (s ++ pad).size < 1000000000000) : ∀ (K fuel o : Nat) (v : Vector Int 8) (r : ByteArray), (s ++ pad).size = o + 64 * K → K < fuel → B r = (B (s ++ pad)).drop o → ref04_With.l0 s glob_1 pad fuel (v, (o : Int)) = digest_Of.l0 fuel (v, r)
 | _, 0, _, _, _, _, h, _ => by omega
 | 0, fuel + 1, o, v, r, hs, _, hr => by
  have hr0 : r = ⟨#[]⟩ := by
   apply B_inj
   rw [hr, B_empty, List.drop_eq_nil_of_le (by rw [B_len]; omega)]
  rw [ref04_With.l0, digest_Of.l0, bif_false (decide_eq_false (by omega)), hr0, seq_B, decide_eq_true rfl, bif_false (c := !true) rfl]
 | K + 1, fuel + 1, o, v, r, hs, hf, hr => by
  have hrz : r.size = 64 * (K + 1) := by rw [← B_len, hr, List.length_drop, B_len]; omega
  have hne : r ≠ ⟨#[]⟩ := by
   intro e
   rw [e] at hrz
   have : (⟨#[]⟩ : ByteArray).size = 0 := rfl
   omega
  have e1 : (sub r 0 64).size = 64 := sub_szij (i := 0) (j := 64) (by omega) (by omega)
  obtain ⟨p, h1, h2⟩ := fill_l1 s pad (o := o) (by omega) hz BIG 0 (Vector.replicate 64 0) (by have := BIG_ge; omega)
  rw [show ((0 : Nat) : Int) = 0 from rfl] at h1
  have h2' : ∀ j : Nat, j < 64 → vg p (j : Int) = (((B (s ++ pad)).getD (o + j) 0 : Nat) : Int) := fun j hj => by
   rw [h2 j hj, if_pos (Nat.zero_le _), bt_B]
   rfl
  have hp : Byt p := fun j hj => ⟨_, by
   have : ∀ y ∈ B (s ++ pad), y < 256 := fun y hy => B_lt hy
   rw [List.getD_eq_getElem?_getD, List.getElem?_eq_getElem (by rw [B_len]; omega), Option.getD_some]
   exact this _ (List.getElem_mem _), h2' j hj⟩
  have hpe : p = vecN 64 (nums (sub r 0 64)) := by
   apply vext
   intro j hj
   rw [h2' j hj, vg_vecN _ hj, nums_B, B_sub, hr]
   simp only [List.getD_eq_getElem?_getD, List.getElem?_map, List.getElem?_drop, List.getElem?_take]
   rw [show (64 : Int).toNat = 64 from rfl, show (0 : Int).toNat = 0 from rfl, Nat.zero_add, if_pos hj, List.getElem?_eq_getElem (by rw [B_len]; omega)]
   rfl
  have hr2 : B (sub r 64 (r.size : Int)) = (B (s ++ pad)).drop (o + 64) := by
   rw [B_sub, hr, Int.toNat_natCast, show (64 : Int).toNat = 64 from rfl, List.take_of_length_le (by rw [← hr, B_len]; omega), List.drop_drop]
  rw [ref04_With.l0, digest_Of.l0, bif_true (decide_eq_true (by omega)), h1, Option.bind_some, step_eq hp, seq_B, decide_eq_false hne, bif_true (c := !false) rfl, gd_pos (by omega), e1, gd_pos (by omega), nums_len, e1, gd_pos (by omega), ← hpe]
  cases digest_Block.f v p with
  | none => simp only [nbind]
  | some y =>
   rw [Option.bind_some, Option.bind_some, gd_pos (by omega), w64_nat (x := (o : Int) + 64) (k := o + 64) (by simp) (by omega)]
   exact with_l0 s pad hz K fuel (o + 64) y _ (by omega) (by omega) hr2
theorem rpad_l0 (n : Nat) (hn : n < 1000000000) : ∀ (t fuel : Nat) (y : List Int), t < fuel → (n + y.length + t) % 64 = 56 → t < 64 → y.length + t < 100000 → ref04_Pad.l0 (n : Int) fuel y = some (y ++ List.replicate t 0)
 | _, 0, y, h, _, _, _ => by omega
 | t, fuel + 1, y, h, h1, h2, h3 => by
  have e0 : (if (n : Int) > 0 then (n : Int) else 0) = (n : Int) := by split <;> omega
  have e1 : w64 ((n : Int) + (y.length : Int)) = ((n + y.length : Nat) : Int) := w64_nat (by simp) (by omega)
  have e2 : (((n + y.length : Nat) : Int)).tmod 64 = (((n + y.length) % 64 : Nat) : Int) := by rw [show (64 : Int) = ((64 : Nat) : Int) from rfl, ← Int.ofNat_tmod]
  rw [ref04_Pad.l0, e0, e1, e2]
  cases t with
  | zero =>
   have hm : (n + y.length) % 64 = 56 := by simpa using h1
   rw [hm, bif_false (by decide)]
   simp
  | succ t =>
   have hm : (n + y.length) % 64 ≠ 56 := by omega
   have hb : ((((n + y.length) % 64 : Nat) : Int) != 56) = true := by
    simp only [bne_iff_ne, ne_eq]
    omega
   rw [hb, bif_true rfl, gd_pos (by omega), rpad_l0 n hn t fuel (y ++ [0]) (by omega) (by simp only [List.length_append, List.length_cons, List.length_nil]; omega) (by omega) (by simp only [List.length_append, List.length_cons, List.length_nil]; omega), List.append_assoc, List.replicate_succ]
   rfl
theorem pad_end (n : Nat) : ∀ (fuel i : Nat) (Y : List Int), i ≤ 8 → Y.length + (8 - i) < 100000 → digest_Pad.l0 (n : Int) fuel (Y, (i : Int)) = ref04_Pad.l1 (n : Int) fuel (Y, 7 - (i : Int))
 | 0, i, Y, _, _ => rfl
 | fuel + 1, i, Y, hi, hY => by
  have e0 : (if (n : Int) > 0 then (n : Int) else 0) = (n : Int) := by split <;> omega
  have e0' : (if (0 : Int) > (n : Int) then (0 : Int) else (n : Int)) = (n : Int) := if_neg (by omega)
  rw [digest_Pad.l0, ref04_Pad.l1, e0, e0']
  rcases Nat.lt_or_ge i 8 with h8 | h8
  ·have e1 : w64 (7 - (i : Int)) = 7 - (i : Int) := w64_id (by omega)
   have e2 : w64 (8 * (7 - (i : Int))) = 8 * (7 - (i : Int)) := w64_id (by omega)
   have e3 : wu64 (8 * (7 - (i : Int))) = 8 * (7 - (i : Int)) := wu64_id (by omega)
   have e4 : w64 (7 - (i : Int) - 1) = 7 - ((i + 1 : Nat) : Int) := by rw [w64_id (by omega)]; omega
   rw [bif_true (decide_eq_true (by omega)), e1, e2, e3, gd_pos (by omega), gd_pos (by omega), w64_nat (x := (i : Int) + 1) (k := i + 1) (by simp) (by omega), bif_true (decide_eq_true (by omega)), gd_pos (by omega), gd_pos (by omega), e4]
   exact pad_end n fuel (i + 1) _ (by omega) (by simp only [List.length_append, List.length_cons, List.length_nil]; omega)
  ·rw [bif_false (decide_eq_false (by omega)), bif_false (decide_eq_false (by omega))]
theorem out_eq (v : Vector Int 8) : ∀ (fuel i : Nat) (X : List Int), ref04_With.l2 v fuel (X, (i : Int)) = digest_Of.l1 v fuel (X, (i : Int))
 | 0, i, X => rfl
 | fuel + 1, i, X => by
  rw [ref04_With.l2, digest_Of.l1]
  rcases Nat.lt_or_ge i 8 with hi | hi
  ·have gi : 0 ≤ (i : Int) ∧ (i : Int) < 8 := by omega
   rw [bif_true (decide_eq_true gi.2), bif_true (decide_eq_true gi.2), w64_nat (x := (i : Int) + 1) (k := i + 1) (by simp) (by omega)]
   iterate 5 rw [gd_pos gi]
   rw [out_eq v fuel (i + 1)]
  ·rw [bif_false (decide_eq_false (by omega)), bif_false (decide_eq_false (by omega))]
theorem rpad_ok {n : Nat} (hn : n < 1000000000) : ref04_Pad.f (n : Int) = digest_Pad.f (n : Int) := by
 unfold ref04_Pad.f digest_Pad.f
 have e0 : (if (0 : Int) > (n : Int) then (0 : Int) else (n : Int)) = (n : Int) := if_neg (by omega)
 have e1 : w64 ((n : Int) + 8) = ((n + 8 : Nat) : Int) := w64_nat (by simp) (by omega)
 have e2 : (((n + 8 : Nat) : Int)).tmod 64 = (((n + 8) % 64 : Nat) : Int) := by rw [show (64 : Int) = ((64 : Nat) : Int) from rfl, ← Int.ofNat_tmod]
 have e3 : w64 (63 - (((n + 8) % 64 : Nat) : Int)) = ((63 - (n + 8) % 64 : Nat) : Int) := w64_nat (by omega) (by omega)
 have e4 : w64 (1 + ((63 - (n + 8) % 64 : Nat) : Int)) = ((1 + (63 - (n + 8) % 64) : Nat) : Int) := w64_nat (by omega) (by omega)
 have e5 : w64 (((1 + (63 - (n + 8) % 64) : Nat) : Int) + 8) = ((1 + (63 - (n + 8) % 64) + 8 : Nat) : Int) := w64_nat (by omega) (by omega)
 rw [rpad_l0 n hn (63 - (n + 8) % 64) BIG [128] (by have := BIG_ge; omega) (by simp only [List.length_cons, List.length_nil]; omega) (by omega) (by simp only [List.length_cons, List.length_nil]; omega), Option.bind_some, e0, e1, e2, e3, e4, e5, gd_pos (by omega), gd_pos (by rw [List.length_replicate]; omega)]
 have e6 : (List.replicate ((1 + (63 - (n + 8) % 64) : Nat) : Int).toNat (0 : Int)).set (0 : Int).toNat 128 = [128] ++ List.replicate (63 - (n + 8) % 64) 0 := by
  rw [Int.toNat_natCast, Nat.add_comm 1, List.replicate_succ]
  rfl
 have e7 := pad_end n BIG 0 ([128] ++ List.replicate (63 - (n + 8) % 64) 0) (by omega) (by simp; omega)
 rw [show ((0 : Nat) : Int) = 0 from rfl, show (7 : Int) - 0 = 7 from rfl] at e7
 rw [e6, e7]
theorem with_ok {s : ByteArray} (hs : s.size < 1000000000) : ref04_With.f s glob_0 glob_1 = some (dg s) := by
 rw [← (dg_ok hs).1]
 unfold ref04_With.f digest_Of.f
 obtain ⟨p, h1, k, h2, h3⟩ := pad_ok hs
 rw [rpad_ok hs, h1, Option.bind_some, Option.bind_some, gd_pos (by omega), gd_pos (by omega)]
 have hz : (s ++ p).size = 64 * k := by rw [app_size]; omega
 have h := with_l0 s p (by omega) k BIG 0 glob_0 (s ++ p) (by omega) (by have := BIG_ge; omega) rfl
 rw [show ((0 : Nat) : Int) = 0 from rfl] at h
 rw [h]
 cases digest_Of.l0 BIG (glob_0, s ++ p) with
 | none => simp only [nbind]
 | some y =>
  have e := out_eq y BIG 0 []
  rw [show ((0 : Nat) : Int) = 0 from rfl] at e
  rw [Option.bind_some, Option.bind_some, e]
end Go.Lf
