/- RootContents, as a plain law. -/
import Derived.Test.YtckhmgglgbnaaaaDoorM37
import Derived.Test.YtckhmgglgbnaaaaDoorM36
set_option linter.unusedVariables false
set_option linter.unusedSimpArgs false
namespace Go.Lf
open Go
theorem texts_same {X : List ByteArray} (hX : X.length < 1000000000) : keep_Texts.f X X = some true := by
  have h0 : ∀ (fuel i : Nat), X.length - i < fuel → keep_Texts.l0 X X fuel (i : Int) = some (.inl ()) := by
    intro fuel
    induction fuel with
    | zero => intro i h; omega
    | succ fuel ih =>
      intro i h
      rw [keep_Texts.l0]
      rcases Nat.lt_or_ge i X.length with hi | hi
      · rw [bif_true (decide_eq_true (by omega)), gd_pos (by omega), gd_pos (by omega), seq_self, Bool.not_true, bif_false rfl, w64_nat (x := (i : Int) + 1) (k := i + 1) (by simp) (by omega)]
        exact ih (i + 1) (by omega)
      · rw [bif_false (decide_eq_false (by omega))]
  unfold keep_Texts.f
  have h := h0 BIG 0 (by have := BIG_ge; omega)
  rw [show ((0 : Nat) : Int) = 0 from rfl] at h
  rw [bif_false (c := (X.length : Int) != (X.length : Int)) (by simp), h]
  rfl
theorem pairs_l0 {X Y : List Pair} (hX : X.length < 1000000000) (hXY : X.length = Y.length) : ∀ (fuel i : Nat), X.length - i < fuel → (keep_Pairs.l0 X Y fuel (i : Int) = some (.inl ()) ∧ X.drop i = Y.drop i) ∨ (keep_Pairs.l0 X Y fuel (i : Int) = some (.inr false) ∧ X.drop i ≠ Y.drop i)
  | 0, i, h => by omega
  | fuel + 1, i, h => by
    rw [keep_Pairs.l0]
    rcases Nat.lt_or_ge i X.length with hi | hi
    · rw [bif_true (decide_eq_true (by omega)), gd_pos (by omega), gd_pos (by omega), gt_nat, gt_nat, w64_nat (x := (i : Int) + 1) (k := i + 1) (by simp) (by omega)]
      rw [drop_cons default hi, drop_cons default (show i < Y.length by omega)]
      unfold eq_Pair
      by_cases he : X.getD i default = Y.getD i default
      · rw [decide_eq_true he, Bool.not_true, bif_false rfl]
        rcases pairs_l0 hX hXY fuel (i + 1) (by omega) with ⟨h1, h2⟩ | ⟨h1, h2⟩
        · exact .inl ⟨h1, by rw [he, h2]⟩
        · exact .inr ⟨h1, fun h => h2 (by simp only [List.cons.injEq] at h; exact h.2)⟩
      · rw [decide_eq_false he, Bool.not_false, bif_true rfl]
        exact .inr ⟨rfl, fun h => he (by simp only [List.cons.injEq] at h; exact h.1)⟩
    · rw [bif_false (decide_eq_false (by omega)), List.drop_eq_nil_of_le hi, List.drop_eq_nil_of_le (by omega)]
      exact .inl ⟨rfl, rfl⟩
theorem pairs_ok {X Y : List Pair} (hX : X.length < 1000000000) : (keep_Pairs.f X Y = some true ∧ X = Y) ∨ (keep_Pairs.f X Y = some false ∧ X ≠ Y) := by
  unfold keep_Pairs.f
  by_cases hl : X.length = Y.length
  · rw [bif_false (c := (X.length : Int) != (Y.length : Int)) (by simp [hl])]
    have h := pairs_l0 hX hl BIG 0 (by have := BIG_ge; omega)
    rw [show ((0 : Nat) : Int) = 0 from rfl, List.drop_zero, List.drop_zero] at h
    rcases h with ⟨h1, h2⟩ | ⟨h1, h2⟩
    · rw [h1]; exact .inl ⟨rfl, h2⟩
    · rw [h1]; exact .inr ⟨rfl, h2⟩
  · rw [bif_true (c := (X.length : Int) != (Y.length : Int)) (by simp; omega)]
    exact .inr ⟨rfl, fun h => hl (by rw [h])⟩
section
variable {l m : List Pair} (hm : MayP l) (hl : l.length < 10000) (hm' : MayP m) (hl' : m.length < 10000)
include hm hl hm' hl'
/-- No unlike texts of one digest stand at these places. -/
def Clean (l m : List Pair) (i k : Nat) : Prop := ∀ u v, (tre l).trs[i]? = some u → (tre m).trs[k]? = some v → u.hsh = v.hsh → enc u.item = enc v.item
theorem contents_l1 (wk : law11_wakes.f = some true) {x y : ref10_Both_T} (hx : x.t_ = tri l) (hy : y.t_ = tri m) {i : Nat} (hi : i < (tri l).length) (h0 : 0 < l.length) (h0' : 0 < m.length) : ∀ (fuel k : Nat), (tri m).length - k < fuel →
    law11_RootContents.l1 x y (hss l) (hss m) i fuel (k : Int) = some (.inr true) ∨ law11_RootContents.l1 x y (hss l) (hss m) i fuel (k : Int) = some (.inl ()) ∧ ∀ k', k ≤ k' → k' < (tri m).length → Clean l m i k'
  | 0, k, h => by omega
  | fuel + 1, k, h => by
    have hsz := tre_sz (l := m) (by omega) h0'
    have htl := tri_len (l := m) h0'
    rw [law11_RootContents.l1, hx, hy]
    rcases Nat.lt_or_ge k (tri m).length with hk | hk
    · obtain ⟨u, u1, u2, u3⟩ := rItem_ok hm hl h0 hi
      obtain ⟨v, v1, v2, v3⟩ := rItem_ok hm' hl' h0' hk
      have he : l ≠ [] := List.length_pos_iff.mp h0
      have he' : m ≠ [] := List.length_pos_iff.mp h0'
      have hs := hss_len (l := l)
      have hs' := hss_len (l := m)
      have hh : hss l = (tre l).trs.map T.hsh := by unfold hss; rw [if_neg he]
      have hh' : hss m = (tre m).trs.map T.hsh := by unfold hss; rw [if_neg he']
      have g1 : gt (hss l) (i : Int) = u.hsh := by rw [hh]; exact (told_of _).2 i u (Nat.zero_le _) u1
      have g2 : gt (hss m) (k : Int) = v.hsh := by rw [hh']; exact (told_of _).2 k v (Nat.zero_le _) v1
      rw [bif_true (decide_eq_true (by omega)), u3]
      simp only [Option.bind_some]
      rw [v3]
      simp only [Option.bind_some]
      rw [encode_ok (T.item_fit u2.2.2)]
      simp only [Option.bind_some]
      rw [encode_ok (T.item_fit v2.2.2)]
      simp only [Option.bind_some]
      rw [gd_pos (by omega), gd_pos (by omega), g1, g2, seq_B, seq_B, w64_nat (x := (k : Int) + 1) (k := k + 1) (by simp) (by omega)]
      have next : Clean l m i k → law11_RootContents.l1 x y (hss l) (hss m) (i : Int) fuel ((k + 1 : Nat) : Int) = some (.inr true) ∨ law11_RootContents.l1 x y (hss l) (hss m) (i : Int) fuel ((k + 1 : Nat) : Int) = some (.inl ()) ∧ ∀ k', k ≤ k' → k' < (tri m).length → Clean l m i k' := by
        intro hc
        rcases contents_l1 wk hx hy hi h0 h0' fuel (k + 1) (by omega) with h1 | ⟨h1, h2⟩
        · exact .inl h1
        · refine .inr ⟨h1, fun k' hk1 hk2 => ?_⟩
          rcases Nat.eq_or_lt_of_le hk1 with rfl | hk1
          · exact hc
          · exact h2 k' hk1 hk2
      by_cases c1 : u.hsh = v.hsh
      · by_cases c2 : enc u.item = enc v.item
        · rw [decide_eq_true c1, decide_eq_true c2, bif_true rfl, Bool.not_true, Option.bind_some, bif_false rfl]
          refine next fun a b ha hb _ => ?_
          rw [u1] at ha
          rw [v1] at hb
          cases ha
          cases hb
          exact c2
        · rw [decide_eq_true c1, decide_eq_false c2, bif_true rfl, Bool.not_false, Option.bind_some, bif_true rfl, wk]
          exact .inl rfl
      · rw [decide_eq_false c1, bif_false rfl, Option.bind_some, bif_false rfl]
        refine next fun a b ha hb hab => ?_
        rw [u1] at ha
        rw [v1] at hb
        cases ha
        cases hb
        exact absurd hab c1
    · rw [bif_false (decide_eq_false (by omega))]
      exact .inr ⟨rfl, fun k' h1 h2 => by omega⟩
theorem contents_l0 (wk : law11_wakes.f = some true) {x y : ref10_Both_T} (hx : x.t_ = tri l) (hy : y.t_ = tri m) (h0 : 0 < l.length) (h0' : 0 < m.length) : ∀ (fuel i : Nat), (tri l).length - i < fuel →
    law11_RootContents.l0 x y (hss l) (hss m) fuel (i : Int) = some (.inr true) ∨ law11_RootContents.l0 x y (hss l) (hss m) fuel (i : Int) = some (.inl ()) ∧ ∀ i', i ≤ i' → i' < (tri l).length → ∀ k, k < (tri m).length → Clean l m i' k
  | 0, i, h => by omega
  | fuel + 1, i, h => by
    have hsz := tre_sz (l := l) (by omega) h0
    have htl := tri_len (l := l) h0
    have hsz' := tre_sz (l := m) (by omega) h0'
    have htl' := tri_len (l := m) h0'
    rw [law11_RootContents.l0, hx]
    rcases Nat.lt_or_ge i (tri l).length with hi | hi
    · have h1 := contents_l1 hm hl hm' hl' wk hx hy hi h0 h0' BIG 0 (by have := BIG_ge; omega)
      rw [show ((0 : Nat) : Int) = 0 from rfl] at h1
      rw [bif_true (decide_eq_true (by omega)), w64_nat (x := (i : Int) + 1) (k := i + 1) (by simp) (by omega)]
      rcases h1 with h1 | ⟨h1, h2⟩
      · rw [h1]
        exact .inl rfl
      · rw [h1]
        simp only [Option.bind_some]
        rcases contents_l0 wk hx hy h0 h0' fuel (i + 1) (by omega) with h3 | ⟨h3, h4⟩
        · exact .inl h3
        · refine .inr ⟨h3, fun i' hi1 hi2 k hk => ?_⟩
          rcases Nat.eq_or_lt_of_le hi1 with rfl | hi1
          · exact h2 k (Nat.zero_le _) hk
          · exact h4 i' hi1 hi2 k hk
    · rw [bif_false (decide_eq_false (by omega))]
      exact .inr ⟨rfl, fun i' h1 h2 => by omega⟩
theorem same_pairs (h0 : 0 < l.length) (h0' : 0 < m.length) (hc : ∀ i, i < (tri l).length → ∀ k, k < (tri m).length → Clean l m i k) (hr : rt l = rt m) : l = m := by
  have he : l ≠ [] := List.length_pos_iff.mp h0
  have he' : m ≠ [] := List.length_pos_iff.mp h0'
  have htl := tri_len (l := l) h0
  have htl' := tri_len (l := m) h0'
  unfold rt at hr
  rw [if_neg he, if_neg he'] at hr
  have ht := T.same (tre l) (tre m) (tre_fit hm (by omega) h0) (tre_fit hm' (by omega) h0') (fun a ha b hb hab => by
    obtain ⟨i, hi⟩ := List.mem_iff_getElem?.mp ha
    obtain ⟨k, hk⟩ := List.mem_iff_getElem?.mp hb
    have h1 := (List.getElem?_eq_some_iff.mp hi).1
    have h2 := (List.getElem?_eq_some_iff.mp hk).1
    rw [T.trs_len] at h1 h2
    exact hc i (by omega) k (by omega) a b hi hk hab) hr
  rw [← tre_prs hm (by omega) h0, ← tre_prs hm' (by omega) h0', ht]
end
theorem rootContents_plain (wk : law11_wakes.f = some true) (l m : List Pair) : law11_RootContents.f l m = some true := by
  unfold law11_RootContents.f
  rcases long_ok l with hL | ⟨hL, hlen⟩
  · rw [hL, Option.bind_some, bif_true rfl, Option.bind_some, bif_true rfl, wk]
    rfl
  rw [hL, Option.bind_some, bif_false rfl]
  rcases long_ok m with hL' | ⟨hL', hlen'⟩
  · rw [hL', Option.bind_some, bif_true rfl, Option.bind_some, bif_true rfl, wk]
    rfl
  rw [hL', Option.bind_some, bif_false rfl]
  rcases (may_ok (l := l) (by omega)).symm with ⟨hm, hM⟩ | ⟨hm, hM⟩
  · rw [hM, Option.bind_some, Bool.not_false, bif_true rfl, Option.bind_some, bif_true rfl, wk]
    rfl
  rw [hM, Option.bind_some, Bool.not_true, bif_false rfl]
  rcases (may_ok (l := m) (by omega)).symm with ⟨hm', hM'⟩ | ⟨hm', hM'⟩
  · rw [hM', Option.bind_some, Bool.not_false, bif_true rfl, Option.bind_some, bif_true rfl, wk]
    rfl
  rw [hM', Option.bind_some, Bool.not_true, bif_false rfl]
  by_cases c1 : 12 < l.length
  · rw [bif_true (decide_eq_true (by omega)), Option.bind_some, bif_true rfl, wk]
    rfl
  rw [bif_false (decide_eq_false (by omega)), Option.bind_some]
  by_cases c2 : 12 < m.length
  · rw [bif_true (decide_eq_true (by omega)), wk]
    rfl
  rw [bif_false (decide_eq_false (by omega)), Build2_ok hm (by omega)]
  have hl : l.length < 10000 := by omega
  have hl' : m.length < 10000 := by omega
  simp only [Option.bind_some]
  rw [Build2_ok hm' (by omega)]
  simp only [Option.bind_some]
  rw [rof_ok hm hl]
  simp only [Option.bind_some]
  rw [rof_ok hm' hl']
  simp only [Option.bind_some]
  rw [all_ok hm hl]
  simp only [Option.bind_some]
  rw [all_ok hm' hl']
  simp only [Option.bind_some, Bool.not_true]
  have hs := hss_len (l := l)
  have hs' := hss_len (l := m)
  rw [bif_false rfl, bif_false rfl, bif_false rfl, bif_false rfl, bif_false (c := ((hss l).length : Int) != ((tri l).length : Int)) (by rw [hs]; simp), Option.bind_some, bif_false (c := ((hss m).length : Int) != ((tri m).length : Int)) (by rw [hs']; simp)]
  have hhl : (hss l).length < 1000000000 := by
    rw [hs]
    by_cases he : l = []
    · subst he; exact (by decide : (0 : Nat) < 1000000000)
    · have h0 : 0 < l.length := List.length_pos_iff.mpr he
      have := tre_sz (l := l) (by omega) h0
      have := tri_len (l := l) h0
      omega
  rcases pairs_ok (X := l) (Y := m) (by omega) with ⟨hp, he⟩ | ⟨hp, hne⟩
  · subst he
    rw [hp, Option.bind_some, bif_true rfl, seq_self, bif_true rfl, texts_same hhl, Option.bind_some, bif_true rfl, wk]
    rfl
  · rw [hp, Option.bind_some, bif_false rfl, seq_B]
    by_cases hr : rt l = rt m
    · rw [decide_eq_true hr, Bool.not_true, bif_false rfl]
      by_cases e1 : l = []
      · subst e1
        obtain ⟨B, hB⟩ : ∃ B, BIG = B + 1 := ⟨BIG - 1, by have := BIG_ge; omega⟩
        have t1 : tri ([] : List Pair) = [] := rfl
        rw [t1, hB, law11_RootContents.l0, bif_false (by simp)]
        rfl
      · have h0 : 0 < l.length := List.length_pos_iff.mpr e1
        by_cases e2 : m = []
        · subst e2
          have t1 : tri ([] : List Pair) = [] := rfl
          have hz : ∀ (fuel i : Nat), (tri l).length - i < fuel → law11_RootContents.l0 ⟨tri l, trp l, true⟩ ⟨tri [], trp [], true⟩ (hss l) (hss []) fuel (i : Int) = some (.inl ()) := by
            intro fuel
            induction fuel with
            | zero => intro i h; omega
            | succ fuel ih =>
              intro i h
              rw [law11_RootContents.l0]
              show (bif decide ((i : Int) < ((tri l).length : Int)) then _ else _) = _
              rcases Nat.lt_or_ge i (tri l).length with hi | hi
              · obtain ⟨B, hB⟩ : ∃ B, BIG = B + 1 := ⟨BIG - 1, by have := BIG_ge; omega⟩
                have := tre_sz (l := l) (by omega) h0
                have := tri_len (l := l) h0
                rw [bif_true (decide_eq_true (by omega)), hB, law11_RootContents.l1, t1, bif_false (by simp)]
                simp only [Option.bind_some]
                rw [w64_nat (x := (i : Int) + 1) (k := i + 1) (by simp) (by omega)]
                exact ih (i + 1) (by omega)
              · rw [bif_false (decide_eq_false (by omega))]
          have h1 := hz BIG 0 (by
            have := tre_sz (l := l) (by omega) h0
            have := tri_len (l := l) h0
            have := BIG_ge
            omega)
          rw [show ((0 : Nat) : Int) = 0 from rfl] at h1
          rw [h1]
          simp only [Option.bind_some]
          rw [t1]
          cases hq : ((tri l).length : Int) == 0 <;> rfl
        · have h0' : 0 < m.length := List.length_pos_iff.mpr e2
          have h1 := contents_l0 hm hl hm' hl' wk (x := ⟨tri l, trp l, true⟩) (y := ⟨tri m, trp m, true⟩) rfl rfl h0 h0' BIG 0 (by
            have := tre_sz (l := l) (by omega) h0
            have := tri_len (l := l) h0
            have := BIG_ge
            omega)
          rw [show ((0 : Nat) : Int) = 0 from rfl] at h1
          rcases h1 with h1 | ⟨h1, h2⟩
          · rw [h1]
            rfl
          · exact absurd (same_pairs hm hl hm' hl' h0 h0' (fun i hi k hk => h2 i (Nat.zero_le _) hi k hk) hr) hne
    · rw [decide_eq_false hr, Bool.not_false, bif_true rfl, wk]
      rfl
end Go.Lf
