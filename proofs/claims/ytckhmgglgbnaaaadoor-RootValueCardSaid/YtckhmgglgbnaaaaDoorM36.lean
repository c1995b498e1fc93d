/- When pairs are too long for a law. -/
import Derived.Test.YtckhmgglgbnaaaaDoorM9
set_option linter.unusedVariables false
set_option linter.unusedSimpArgs false
namespace Go.Lf
open Go
theorem long_l0 {l : List Pair} : ∀ (fuel i n : Nat), 3001 - n < fuel → i ≤ n → n ≤ 10000 → ∃ y : Nat, keep_LongPairs.l0 l fuel ((n : Int), (i : Int)) = some (y : Int) ∧ y ≤ 10000 ∧ (y ≤ 3000 → l.length ≤ y)
  | 0, i, n, h, _, _ => by omega
  | fuel + 1, i, n, h, hi, hn => by
    rw [keep_LongPairs.l0]
    rcases Nat.lt_or_ge i l.length with hl | hl
    · rw [bif_true (decide_eq_true (by omega)), Option.bind_some]
      by_cases hc : n ≤ 3000
      · rw [bif_true (decide_eq_true (by omega)), gd_pos (by omega), gd_pos (by omega)]
        obtain ⟨x, hx, hx'⟩ : ∃ x : Nat, (if (3000 : Int) < (((gt l (i : Int)).key_).size : Int) then 3000 else (((gt l (i : Int)).key_).size : Int)) = (x : Int) ∧ x ≤ 3000 := by
          split
          · exact ⟨3000, rfl, by omega⟩
          · exact ⟨_, rfl, by omega⟩
        obtain ⟨z, hz, hz'⟩ : ∃ z : Nat, (if (3000 : Int) < (((gt l (i : Int)).value_).size : Int) then 3000 else (((gt l (i : Int)).value_).size : Int)) = (z : Int) ∧ z ≤ 3000 := by
          split
          · exact ⟨3000, rfl, by omega⟩
          · exact ⟨_, rfl, by omega⟩
        rw [hx, hz, w64_nat (x := 1 + (x : Int)) (k := 1 + x) (by simp) (by omega), w64_nat (x := ((1 + x : Nat) : Int) + (z : Int)) (k := 1 + x + z) (by simp) (by omega), w64_nat (x := (n : Int) + ((1 + x + z : Nat) : Int)) (k := n + (1 + x + z)) (by simp) (by omega), w64_nat (x := (i : Int) + 1) (k := i + 1) (by simp) (by omega)]
        exact long_l0 fuel (i + 1) (n + (1 + x + z)) (by omega) (by omega) (by omega)
      · rw [bif_false (decide_eq_false (by omega))]
        exact ⟨n, rfl, hn, fun h => by omega⟩
    · rw [bif_false (decide_eq_false (by omega)), Option.bind_some, bif_false rfl]
      exact ⟨n, rfl, hn, fun h => by omega⟩
theorem long_ok (l : List Pair) : keep_LongPairs.f l = some true ∨ keep_LongPairs.f l = some false ∧ l.length ≤ 3000 := by
  unfold keep_LongPairs.f
  obtain ⟨y, h1, h2, h3⟩ := long_l0 (l := l) BIG 0 0 (by have := BIG_ge; omega) (by omega) (by omega)
  rw [show ((0 : Nat) : Int) = 0 from rfl] at h1
  rw [h1]
  simp only [Option.bind_some]
  by_cases h : y ≤ 3000
  · exact .inr ⟨by simp; omega, by have := h3 h; omega⟩
  · exact .inl (by simp; omega)
end Go.Lf
