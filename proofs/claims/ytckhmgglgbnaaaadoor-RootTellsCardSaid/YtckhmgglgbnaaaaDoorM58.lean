/- RootTells as a plain law. -/
import Derived.Test.YtckhmgglgbnaaaaDoorM57
import Derived.Test.YtckhmgglgbnaaaaDoorM52
set_option linter.unusedVariables false
set_option linter.unusedSimpArgs false
namespace Go.Lf
open Go
theorem long_l0 {a : List Node} (ha : a.length ≤ 40) : ∀ (fuel i n : Nat), a.length - i < fuel → n ≤ 20000 → (∀ j : Nat, j < i → j < a.length → 1 + min 4000 (gt a (j : Int)).path_.size ≤ n) →
    ∃ n' : Nat, keep_LongTrie.l0 a fuel ((n : Int), (i : Int)) = some (n' : Int) ∧ (n' ≤ 4000 → ∀ j : Nat, j < a.length → (gt a (j : Int)).path_.size ≤ 4000)
  | 0, i, n, h, _, _ => by omega
  | fuel + 1, i, n, h, hn, hj => by
    rw [keep_LongTrie.l0]
    by_cases c1 : i < a.length
    · rw [bif_true (decide_eq_true (by omega)), Option.bind_some]
      by_cases c2 : n ≤ 4000
      · have e1 : (if (4000 : Int) < (((gt a (i : Int)).path_).size : Int) then (4000 : Int) else (((gt a (i : Int)).path_).size : Int)) = ((min 4000 (gt a (i : Int)).path_.size : Nat) : Int) := by split <;> omega
        have e2 : (if (4000 : Int) < (((gt a (i : Int)).value_).size : Int) then (4000 : Int) else (((gt a (i : Int)).value_).size : Int)) = ((min 4000 (gt a (i : Int)).value_.size : Nat) : Int) := by split <;> omega
        generalize hp : min 4000 (gt a (i : Int)).path_.size = p at e1
        generalize hv : min 4000 (gt a (i : Int)).value_.size = v at e2
        have e3 : w64 (1 + (p : Int)) = ((1 + p : Nat) : Int) := w64_nat (by simp) (by omega)
        have e4 : w64 (((1 + p : Nat) : Int) + (v : Int)) = ((1 + p + v : Nat) : Int) := w64_nat (by simp) (by omega)
        have e5 : w64 ((n : Int) + ((1 + p + v : Nat) : Int)) = ((n + (1 + p + v) : Nat) : Int) := w64_nat (by simp) (by omega)
        rw [bif_true (decide_eq_true (by omega)), gd_pos (by omega), gd_pos (by omega), e1, e2, e3, e4, e5, w64_nat (x := (i : Int) + 1) (k := i + 1) (by simp) (by omega)]
        refine long_l0 ha fuel (i + 1) (n + (1 + p + v)) (by omega) (by omega) (fun j h1 h2 => ?_)
        rcases Nat.eq_or_lt_of_le (Nat.le_of_lt_succ h1) with rfl | h1
        · omega
        · have := hj j h1 h2
          omega
      · rw [bif_false (decide_eq_false (by omega))]
        exact ⟨n, rfl, fun h => by omega⟩
    · rw [bif_false (decide_eq_false (by omega)), Option.bind_some, bif_false rfl]
      refine ⟨n, rfl, fun h j hj' => ?_⟩
      have := hj j (by omega) hj'
      omega
theorem few_any (a : List Node) : ∃ b, law11_Few.f a = some b ∧ (b = true → Sm a) := by
  unfold law11_Few.f
  by_cases ha : a.length ≤ 40
  · obtain ⟨n, h1, h2⟩ := long_l0 ha BIG 0 0 (by have := BIG_ge; omega) (by omega) (fun j h => by omega)
    rw [show ((0 : Nat) : Int) = 0 from rfl] at h1
    unfold keep_LongTrie.f
    rw [bif_true (decide_eq_true (by omega)), h1]
    refine ⟨_, rfl, fun h => ⟨by omega, fun i => ?_⟩⟩
    have hn : n ≤ 4000 := by
      simp at h
      omega
    rcases Nat.lt_or_ge i a.length with hi | hi
    · have := h2 hn i hi
      omega
    · rw [gt_nat, List.getD_eq_getElem?_getD, List.getElem?_eq_none hi]
      exact Nat.zero_le _
  · rw [bif_false (decide_eq_false (by omega))]
    exact ⟨false, rfl, fun h => by cases h⟩
theorem ktrie_l0 {a : List Node} (ha : a.length < 1000000000) : ∀ (fuel i : Nat), a.length - i < fuel → keep_Trie.l0 a a fuel i = some (.inl ())
  | 0, i, h => by omega
  | fuel + 1, i, h => by
    rw [keep_Trie.l0]
    rcases Nat.lt_or_ge i a.length with hi | hi
    · have g : 0 ≤ (i : Int) ∧ (i : Int) < (a.length : Int) := by omega
      rw [bif_true (decide_eq_true g.2), gd_pos g, gd_pos g, w64_nat (x := (i : Int) + 1) (k := i + 1) (by simp) (by omega)]
      have : eq_Node (gt a (i : Int)) (gt a (i : Int)) = true := by simp [eq_Node]
      rw [this, bif_false (c := !true) rfl]
      exact ktrie_l0 ha fuel (i + 1) (by omega)
    · rw [bif_false (decide_eq_false (by omega))]
theorem ktrie_ok {a : List Node} (ha : a.length < 1000000000) : keep_Trie.f a a = some true := by
  unfold keep_Trie.f
  rw [bif_false (c := (a.length : Int) != (a.length : Int)) (by simp)]
  have := ktrie_l0 ha BIG 0 (by have := BIG_ge; omega)
  rw [show ((0 : Nat) : Int) = 0 from rfl] at this
  rw [this]
  rfl
def item0 : Item := ⟨0, (⟨#[]⟩ : ByteArray), false, (⟨#[]⟩ : ByteArray), 0, ([] : List ByteArray)⟩
theorem rootTells_plain (wk : law11_wakes.f = some true) (a : List Node) (a1 : Int) : law11_RootTells.f a a1 = some true := by
  unfold law11_RootTells.f
  obtain ⟨b, hb, hS⟩ := few_any a
  rw [hb, Option.bind_some]
  cases b
  · rw [bif_true (c := !false) rfl, wk]
    rfl
  have hz := hS rfl
  have z1 := hz.1
  have hk := ktrie_ok (a := a) (by omega)
  rw [bif_false (c := !true) rfl, gd_pos (by simp; omega), List.nil_append]
  rcases good_any hz with ⟨g1, g2⟩ | ⟨l, hm, hl, rfl⟩
  · have hall : root_All.f a = some ([], false) := by
      unfold root_All.f
      rw [g1]
      rfl
    have hof : root_Of.f a = some ((⟨#[]⟩ : ByteArray), false) := by
      unfold root_Of.f
      rw [hall]
      rfl
    have hit : root_Item.f a a1 = some (item0, false) := by
      unfold root_Item.f
      rw [g1]
      cases decide (a1 < 0)
      · cases decide (a1 ≥ (a.length : Int))
        · rfl
        · rfl
      · rfl
    have h11 : ref11_Of.f a = some ⟨[], [], false⟩ := by
      unfold ref11_Of.f
      rw [g2]
      rfl
    have hr11 : ref11_Root.f a = some ⟨#[]⟩ := by
      unfold ref11_Root.f
      rw [h11]
      rfl
    rw [hof]
    simp only [Option.bind_some]
    rw [hall]
    simp only [Option.bind_some]
    rw [hit]
    simp only [Option.bind_some]
    rw [h11]
    simp only [Option.bind_some]
    rw [bif_false (c := false) rfl]
    simp only [Option.bind_some]
    rw [bif_false (c := false) rfl]
    simp only [Option.bind_some]
    rw [hr11, Option.bind_some, seq_self, bif_true rfl, bif_true (by rfl), texts_ok (by simp), Option.bind_some, decide_eq_true rfl, bif_true rfl, bif_true (by rfl)]
    rw [show (⟨0, (⟨#[]⟩ : ByteArray), false, (⟨#[]⟩ : ByteArray), 0, ([] : List ByteArray)⟩ : Item) = item0 from rfl, keepItem_ok (by simp [item0]), Option.bind_some, decide_eq_true rfl, bif_true rfl, bif_true (by rfl), empty_ok, Option.bind_some, empty11_ok, Option.bind_some, seq_self, bif_true rfl, hk, Option.bind_some, bif_true rfl, wk]
    rfl
  · have hl' : l.length < 10000 := by omega
    rw [rof_ok hm hl']
    simp only [Option.bind_some]
    rw [all_ok hm hl']
    simp only [Option.bind_some]
    have hs := hss_len (l := l)
    by_cases hin : 0 ≤ a1 ∧ a1 < ((tri l).length : Int)
    · obtain ⟨i, rfl⟩ : ∃ i : Nat, a1 = (i : Int) := ⟨a1.toNat, by omega⟩
      have h0 : 0 < l.length := by
        rcases Nat.eq_zero_or_pos l.length with h | h
        · have : l = [] := List.length_eq_zero_iff.mp h
          subst this
          have : (tri ([] : List Pair)).length = 0 := rfl
          omega
        · exact h
      have he : l ≠ [] := List.length_pos_iff.mp h0
      obtain ⟨u, u1, u2, u3⟩ := rItem_ok hm hl' h0 (show i < (tri l).length by omega)
      have hlt := (List.getElem?_eq_some_iff.mp u1).1
      have hi : i < (its l).length ∧ gt (its l) (i : Int) = u.item := by
        unfold its
        rw [if_neg he]
        refine ⟨by rw [List.length_map]; exact hlt, ?_⟩
        rw [gt_nat, List.getD_eq_getElem?_getD, List.getElem?_map, u1]
        rfl
      have hfew := (T.item_fit u2.2.2).few
      rw [u3]
      simp only [Option.bind_some]
      rw [of11_ok hm hl']
      simp only [Option.bind_some]
      rw [bif_true (c := true) rfl, bif_true (decide_eq_true (by omega)), decide_eq_true (show (i : Int) < ((tri l).length : Int) by omega)]
      simp only [Option.bind_some]
      rw [bif_true (c := true) rfl, gd_pos (by omega), hi.2]
      simp only [Option.bind_some]
      rw [root11_ok hm hl', Option.bind_some, seq_self, bif_true rfl, bif_true (by rfl), texts_ok (by omega), Option.bind_some, decide_eq_true rfl, bif_true rfl, bif_true (by rfl)]
      rw [keepItem_ok (by omega), Option.bind_some, decide_eq_true rfl, bif_true rfl, bif_true (by rfl), empty_ok, Option.bind_some, empty11_ok, Option.bind_some, seq_self, bif_true rfl, hk, Option.bind_some, bif_true rfl, wk]
      rfl
    · have hit : root_Item.f (tri l) a1 = some (item0, false) := by
        unfold root_Item.f
        by_cases c1 : a1 < 0
        · rw [bif_true (decide_eq_true c1)]
          rfl
        · rw [bif_false (decide_eq_false c1), bif_true (decide_eq_true (by omega))]
          rfl
      have hno : (bif decide (a1 ≥ 0) then some (decide (a1 < ((tri l).length : Int))) else some false) = some false := by
        by_cases c1 : a1 < 0
        · rw [bif_false (decide_eq_false (by omega))]
        · rw [bif_true (decide_eq_true (by omega)), decide_eq_false (by omega)]
      rw [hit]
      simp only [Option.bind_some]
      rw [of11_ok hm hl']
      simp only [Option.bind_some]
      rw [bif_true (c := true) rfl, hno]
      simp only [Option.bind_some]
      rw [bif_false (c := false) rfl]
      simp only [Option.bind_some]
      rw [root11_ok hm hl', Option.bind_some, seq_self, bif_true rfl, bif_true (by rfl), texts_ok (by omega), Option.bind_some, decide_eq_true rfl, bif_true rfl, bif_true (by rfl)]
      rw [show (⟨0, (⟨#[]⟩ : ByteArray), false, (⟨#[]⟩ : ByteArray), 0, ([] : List ByteArray)⟩ : Item) = item0 from rfl, keepItem_ok (by simp [item0]), Option.bind_some, decide_eq_true rfl, bif_true rfl, bif_true (by rfl), empty_ok, Option.bind_some, empty11_ok, Option.bind_some, seq_self, bif_true rfl, hk, Option.bind_some, bif_true rfl, wk]
      rfl
end Go.Lf
