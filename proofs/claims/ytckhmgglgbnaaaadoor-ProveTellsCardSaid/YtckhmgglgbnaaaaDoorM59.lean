/- ProveTells as a plain law. -/
import Derived.Test.YtckhmgglgbnaaaaDoorM57
import Derived.Test.YtckhmgglgbnaaaaDoorM52
set_option linter.unusedVariables false
set_option linter.unusedSimpArgs false
namespace Go.Lf
open Go
theorem ref16_l0 {l : List Pair} (he : l ≠ []) {y : ref11_All_T} (hy : y.i_ = its l) {W : List Int} (hW : ∀ x ∈ W, ∃ i : Nat, x = (i : Int) ∧ i < (tri l).length) (hT : (tre l).trs.length = (tri l).length) (hF : ∀ u ∈ (tre l).trs, Fit u.item) (hlen : W.length < 1000000) : ∀ (fuel j : Nat) (acc : List ByteArray), W.length - j < fuel → acc.length = j → ref16_Of.l0 W y fuel (acc, (j : Int)) = some (acc ++ (W.drop j).map (etx l))
 | 0, j, acc, h, _ => by omega
 | fuel + 1, j, acc, h, hj => by
  rw [ref16_Of.l0]
  rcases Nat.lt_or_ge j W.length with hlt | hge
  ·have hg : gt W (j : Int) ∈ W := by
    rw [gt_nat, List.getD_eq_getElem?_getD, List.getElem?_eq_getElem hlt, Option.getD_some]
    exact List.getElem_mem _
   obtain ⟨i, e1, e2⟩ := hW _ hg
   have hi : i < (tre l).trs.length := by omega
   have hu : (tre l).trs[i]? = some (tre l).trs[i] := List.getElem?_eq_getElem hi
   have hI : i < (its l).length ∧ gt (its l) (i : Int) = ((tre l).trs[i]).item := by
    unfold its
    rw [if_neg he]
    refine ⟨by rw [List.length_map]; exact hi, ?_⟩
    rw [gt_nat, List.getD_eq_getElem?_getD, List.getElem?_map, hu]
    rfl
   rw [bif_true (decide_eq_true (by omega)), gd_pos (by omega), e1, hy, gd_pos (by omega), hI.2, renc_ok (hF _ (List.getElem_mem hi))]
   simp only [Option.bind_some]
   rw [gd_pos (by omega), w64_nat (x := (j : Int) + 1) (k := j + 1) (by simp) (by omega), ref16_l0 he hy hW hT hF hlen fuel (j + 1) _ (by omega) (by simp; omega), drop_cons default hlt, List.map_cons]
   have : etx l (W.getD j default) = enc ((tre l).trs[i]).item := by
    rw [← gt_nat, e1]
    unfold etx
    rw [Int.toNat_natCast, hu]
   rw [this, List.append_assoc]
   rfl
  ·rw [bif_false (decide_eq_false (by omega)), List.drop_eq_nil_of_le hge]
   simp
theorem long_l0 {a : List Node} (ha : a.length ≤ 40) : ∀ (fuel i n : Nat), a.length - i < fuel → n ≤ 20000 → (∀ j : Nat, j < i → j < a.length → 1 + min 4000 (gt a (j : Int)).path_.size ≤ n) →
  ∃ n' : Nat, keep_LongTrie.l0 a fuel ((n : Int), (i : Int)) = some (n' : Int) ∧ (n' ≤ 4000 → ∀ j : Nat, j < a.length → (gt a (j : Int)).path_.size ≤ 4000)
 | 0, i, n, h, _, _ => by omega
 | fuel + 1, i, n, h, hn, hj => by
  rw [keep_LongTrie.l0]
  by_cases c1 : i < a.length
  ·rw [bif_true (decide_eq_true (by omega)), Option.bind_some]
   by_cases c2 : n ≤ 4000
   ·have e1 : (if (4000 : Int) < (((gt a (i : Int)).path_).size : Int) then (4000 : Int) else (((gt a (i : Int)).path_).size : Int)) = ((min 4000 (gt a (i : Int)).path_.size : Nat) : Int) := by split <;> omega
    have e2 : (if (4000 : Int) < (((gt a (i : Int)).value_).size : Int) then (4000 : Int) else (((gt a (i : Int)).value_).size : Int)) = ((min 4000 (gt a (i : Int)).value_.size : Nat) : Int) := by split <;> omega
    generalize hp : min 4000 (gt a (i : Int)).path_.size = p at e1
    generalize hv : min 4000 (gt a (i : Int)).value_.size = v at e2
    have e3 : w64 (1 + (p : Int)) = ((1 + p : Nat) : Int) := w64_nat (by simp) (by omega)
    have e4 : w64 (((1 + p : Nat) : Int) + (v : Int)) = ((1 + p + v : Nat) : Int) := w64_nat (by simp) (by omega)
    have e5 : w64 ((n : Int) + ((1 + p + v : Nat) : Int)) = ((n + (1 + p + v) : Nat) : Int) := w64_nat (by simp) (by omega)
    rw [bif_true (decide_eq_true (by omega)), gd_pos (by omega), gd_pos (by omega), e1, e2, e3, e4, e5, w64_nat (x := (i : Int) + 1) (k := i + 1) (by simp) (by omega)]
    refine long_l0 ha fuel (i + 1) (n + (1 + p + v)) (by omega) (by omega) (fun j h1 h2 => ?_)
    rcases Nat.eq_or_lt_of_le (Nat.le_of_lt_succ h1) with rfl | h1
    ·omega
    ·have := hj j h1 h2
     omega
   ·rw [bif_false (decide_eq_false (by omega))]
    exact ⟨n, rfl, fun h => by omega⟩
  ·rw [bif_false (decide_eq_false (by omega)), Option.bind_some, bif_false rfl]
   refine ⟨n, rfl, fun h j hj' => ?_⟩
   have := hj j (by omega) hj'
   omega
theorem few_any (a : List Node) : ∃ b, law11_Few.f a = some b ∧ (b = true → Sm a) := by
 unfold law11_Few.f
 by_cases ha : a.length ≤ 40
 ·obtain ⟨n, h1, h2⟩ := long_l0 ha BIG 0 0 (by have := BIG_ge; omega) (by omega) (fun j h => by omega)
  rw [show ((0 : Nat) : Int) = 0 from rfl] at h1
  unfold keep_LongTrie.f
  rw [bif_true (decide_eq_true (by omega)), h1]
  refine ⟨_, rfl, fun h => ⟨by omega, fun i => ?_⟩⟩
  have hn : n ≤ 4000 := by
   simp at h
   omega
  rcases Nat.lt_or_ge i a.length with hi | hi
  ·have := h2 hn i hi
   omega
  ·rw [gt_nat, List.getD_eq_getElem?_getD, List.getElem?_eq_none hi]
   exact Nat.zero_le _
 ·rw [bif_false (decide_eq_false (by omega))]
  exact ⟨false, rfl, fun h => by cases h⟩
theorem ktrie_l0 {a : List Node} (ha : a.length < 1000000000) : ∀ (fuel i : Nat), a.length - i < fuel → keep_Trie.l0 a a fuel i = some (.inl ())
 | 0, i, h => by omega
 | fuel + 1, i, h => by
  rw [keep_Trie.l0]
  rcases Nat.lt_or_ge i a.length with hi | hi
  ·have g : 0 ≤ (i : Int) ∧ (i : Int) < (a.length : Int) := by omega
   rw [bif_true (decide_eq_true g.2), gd_pos g, gd_pos g, w64_nat (x := (i : Int) + 1) (k := i + 1) (by simp) (by omega)]
   have : eq_Node (gt a (i : Int)) (gt a (i : Int)) = true := by simp [eq_Node]
   rw [this, bif_false (c := !true) rfl]
   exact ktrie_l0 ha fuel (i + 1) (by omega)
  ·rw [bif_false (decide_eq_false (by omega))]
theorem ktrie_ok {a : List Node} (ha : a.length < 1000000000) : keep_Trie.f a a = some true := by
 unfold keep_Trie.f
 rw [bif_false (c := (a.length : Int) != (a.length : Int)) (by simp)]
 have := ktrie_l0 ha BIG 0 (by have := BIG_ge; omega)
 rw [show ((0 : Nat) : Int) = 0 from rfl] at this
 rw [this]
 rfl
theorem proveTells_plain (wk : law16_wakes.f = some true) (a : List Node) (a1 : ByteArray) : law16_ProveTells.f a a1 = some true := by
 unfold law16_ProveTells.f
 obtain ⟨b, hb, hS⟩ := few_any a
 rw [hb, Option.bind_some]
 cases b
 ·rw [bif_true (c := !false) rfl, Option.bind_some, bif_true rfl, wk]
  rfl
 rw [bif_false (c := !true) rfl, Option.bind_some]
 by_cases hk : a1.size ≤ 100
 ·have hz := hS rfl
  have z1 := hz.1
  have hkt := ktrie_ok (a := a) (by omega)
  rw [bif_false (decide_eq_false (by omega)), gd_pos (by simp; omega), List.nil_append]
  suffices h : ∃ p e, prove_Of.f a a1 = some (p, e) ∧ ref16_Of.f a a1 = some (p, e) ∧ p.length < 1000000000 by
   obtain ⟨p, e, h1, h2, h3⟩ := h
   rw [h1]
   simp only [Option.bind_some]
   rw [h2]
   simp only [Option.bind_some]
   rw [texts_ok h3, Option.bind_some, decide_eq_true rfl, bif_true rfl, bif_true (by simp), hkt, Option.bind_some, bif_true rfl, wk]
   rfl
  rcases good_any hz with ⟨g1, g2⟩ | ⟨l, hm, hl, rfl⟩
  ·refine ⟨[], 1, ?_, ?_, by simp⟩
   ·unfold prove_Of.f get_Walk.f get_gone.f
    rw [g1]
    rfl
   ·unfold ref16_Of.f ref12_Walk.f
    rw [g2]
    rfl
  ·have hl' : l.length < 10000 := by omega
   by_cases hk2 : 1 ≤ a1.size ∧ a1.size ≤ 8
   ·obtain ⟨hlen, hW⟩ := wkl_rg hm hl' a1
    have hts := tri_short hl'
    refine ⟨_, 0, prove_ok hm hl' hk2, ?_, by rw [List.length_map]; omega⟩
    unfold ref16_Of.f
    rw [walk2_ok hm hl' hk2]
    simp only [Option.bind_some]
    rw [bif_false (c := (0 : Int) != 0) rfl, of11_ok hm hl']
    simp only [Option.bind_some]
    by_cases he : l = []
    ·have hw : wkl l a1 = [] := by unfold wkl; rw [if_pos he]
     obtain ⟨B, hB⟩ : ∃ B, BIG = B + 1 := ⟨BIG - 1, by have := BIG_ge; omega⟩
     rw [hw, hB, ref16_Of.l0, bif_false (decide_eq_false (by decide))]
     rfl
    ·have h0 : 0 < l.length := List.length_pos_iff.mpr he
     have hT : (tre l).trs.length = (tri l).length := by rw [T.trs_len, tri_len h0]
     have h := ref16_l0 he (y := ⟨its l, hss l, true⟩) rfl hW hT (fun u hu => by
      obtain ⟨i, hi⟩ := List.mem_iff_getElem?.mp hu
      obtain ⟨v, v1, v2, v3⟩ := rItem_ok hm hl' h0 (i := i) (by rw [← hT]; exact (List.getElem?_eq_some_iff.mp hi).1)
      rw [hi] at v1
      injection v1 with v1
      subst v1
      exact T.item_fit v2.2.2) (by omega) BIG 0 [] (by have := BIG_ge; omega) rfl
     rw [show ((0 : Nat) : Int) = 0 from rfl] at h
     rw [h]
     simp
   ·refine ⟨[], 9, ?_, ?_, by simp⟩
    ·unfold prove_Of.f get_Walk.f get_gone.f
     rw [good_ok hm hl', Option.bind_some, bif_false (c := !true) rfl, seq_B]
     by_cases h0 : a1.size = 0
     ·rw [decide_eq_true ((emp_iff a1).mpr h0), bif_true rfl]
      rfl
     ·rw [decide_eq_false (fun h => h0 ((emp_iff a1).mp h)), bif_false rfl, Option.bind_some, bif_true (decide_eq_true (by omega))]
      rfl
    ·unfold ref16_Of.f ref12_Walk.f
     rw [rgood_ok hm hl', Option.bind_some, bif_false (c := !true) rfl, key12_ok, decide_eq_false hk2, Option.bind_some, bif_true (c := !false) rfl]
     rfl
 ·rw [bif_true (decide_eq_true (by omega)), wk]
  rfl
end Go.Lf
