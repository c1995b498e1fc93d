/- RootValue, as a plain law. -/
import Derived.Test.YtckhmgglgbnaaaaDoorM39
set_option linter.unusedVariables false
set_option linter.unusedSimpArgs false
namespace Go.Lf
open Go
theorem texts_l0 {X Y : List ByteArray} (hX : X.length < 1000000000) (hXY : X.length = Y.length) : ∀ (fuel i : Nat), X.length - i < fuel → (keep_Texts.l0 X Y fuel (i : Int) = some (.inl ()) ∧ X.drop i = Y.drop i) ∨ (keep_Texts.l0 X Y fuel (i : Int) = some (.inr false) ∧ X.drop i ≠ Y.drop i)
  | 0, i, h => by omega
  | fuel + 1, i, h => by
    rw [keep_Texts.l0]
    rcases Nat.lt_or_ge i X.length with hi | hi
    · rw [bif_true (decide_eq_true (by omega)), gd_pos (by omega), gd_pos (by omega), gt_nat, gt_nat, w64_nat (x := (i : Int) + 1) (k := i + 1) (by simp) (by omega), seq_B]
      rw [drop_cons default hi, drop_cons default (show i < Y.length by omega)]
      by_cases he : X.getD i default = Y.getD i default
      · rw [decide_eq_true he, Bool.not_true, bif_false rfl]
        rcases texts_l0 hX hXY fuel (i + 1) (by omega) with ⟨h1, h2⟩ | ⟨h1, h2⟩
        · exact .inl ⟨h1, by rw [he, h2]⟩
        · exact .inr ⟨h1, fun h => h2 (by simp only [List.cons.injEq] at h; exact h.2)⟩
      · rw [decide_eq_false he, Bool.not_false, bif_true rfl]
        exact .inr ⟨rfl, fun h => he (by simp only [List.cons.injEq] at h; exact h.1)⟩
    · rw [bif_false (decide_eq_false (by omega)), List.drop_eq_nil_of_le hi, List.drop_eq_nil_of_le (by omega)]
      exact .inl ⟨rfl, rfl⟩
theorem texts_ok {X Y : List ByteArray} (hX : X.length < 1000000000) : keep_Texts.f X Y = some (decide (X = Y)) := by
  unfold keep_Texts.f
  by_cases hl : X.length = Y.length
  · rw [bif_false (c := (X.length : Int) != (Y.length : Int)) (by simp [hl])]
    have h := texts_l0 hX hl BIG 0 (by have := BIG_ge; omega)
    rw [show ((0 : Nat) : Int) = 0 from rfl, List.drop_zero, List.drop_zero] at h
    rcases h with ⟨h1, h2⟩ | ⟨h1, h2⟩
    · rw [h1, decide_eq_true h2]; rfl
    · rw [h1, decide_eq_false h2]; rfl
  · rw [bif_true (c := (X.length : Int) != (Y.length : Int)) (by simp; omega), decide_eq_false (fun h => hl (by rw [h]))]
theorem keepItem_ok {i j : Item} (hi : i.hashes_.length < 1000000000) : keep_Item.f i j = some (decide (i = j)) := by
  unfold keep_Item.f
  rw [texts_ok hi, seq_B, seq_B]
  by_cases h : i = j
  · subst h
    simp
  · rw [decide_eq_false h]
    by_cases c1 : i.kind_ = j.kind_
    · by_cases c2 : i.path_ = j.path_
      · by_cases c3 : i.has_ = j.has_
        · by_cases c4 : i.value_ = j.value_
          · by_cases c5 : i.mask_ = j.mask_
            · by_cases c6 : i.hashes_ = j.hashes_
              · exact absurd (Item.ext' c1 c2 c3 c4 c5 c6) h
              · rw [bif_true (c := i.kind_ == j.kind_) (by simpa using c1), decide_eq_true c2, bif_true rfl, bif_true (c := i.has_ == j.has_) (by simpa using c3), decide_eq_true c4, bif_true rfl, bif_true (c := i.mask_ == j.mask_) (by simpa using c5), decide_eq_false c6]
                rfl
            · rw [bif_true (c := i.kind_ == j.kind_) (by simpa using c1), decide_eq_true c2, bif_true rfl, bif_true (c := i.has_ == j.has_) (by simpa using c3), decide_eq_true c4, bif_true rfl, bif_false (c := i.mask_ == j.mask_) (by simpa using c5)]
              rfl
          · rw [bif_true (c := i.kind_ == j.kind_) (by simpa using c1), decide_eq_true c2, bif_true rfl, bif_true (c := i.has_ == j.has_) (by simpa using c3), decide_eq_false c4, bif_false rfl]
            rfl
        · rw [bif_true (c := i.kind_ == j.kind_) (by simpa using c1), decide_eq_true c2, bif_true rfl, bif_false (c := i.has_ == j.has_) (by simpa using c3)]
          rfl
      · rw [bif_true (c := i.kind_ == j.kind_) (by simpa using c1), decide_eq_false c2, bif_false rfl]
        rfl
    · rw [bif_false (c := i.kind_ == j.kind_) (by simpa using c1)]
      rfl
/-- At this place like hashes are like Items'. -/
def Calm (l m : List Pair) (i : Nat) : Prop := ∀ u v, (tre l).trs[i]? = some u → (tre m).trs[i]? = some v → u.hsh = v.hsh → u.item = v.item
theorem value_l0 {l m : List Pair} (hm : MayP l) (hl : l.length < 10000) (hm' : MayP m) (hl' : m.length < 10000) (wk : law11_wakes.f = some true) {x y : ref10_Both_T} (hx : x.t_ = tri l) (hy : y.t_ = tri m) (h0 : 0 < l.length) (h0' : 0 < m.length) (hlen : (tri l).length = (tri m).length) : ∀ (fuel i : Nat), (tri l).length - i < fuel →
    law11_RootValue.l0 x y (hss l) (hss m) fuel (i : Int) = some (.inr true) ∨ law11_RootValue.l0 x y (hss l) (hss m) fuel (i : Int) = some (.inl ()) ∧ ∀ i', i ≤ i' → i' < (tri l).length → Calm l m i'
  | 0, i, h => by omega
  | fuel + 1, i, h => by
    have hsz := tre_sz (l := l) (by omega) h0
    have htl := tri_len (l := l) h0
    rw [law11_RootValue.l0, hx, hy]
    rcases Nat.lt_or_ge i (tri l).length with hi | hi
    · obtain ⟨u, u1, u2, u3⟩ := rItem_ok hm hl h0 hi
      obtain ⟨v, v1, v2, v3⟩ := rItem_ok hm' hl' h0' (show i < (tri m).length by omega)
      have he : l ≠ [] := List.length_pos_iff.mp h0
      have he' : m ≠ [] := List.length_pos_iff.mp h0'
      have hs := hss_len (l := l)
      have hs' := hss_len (l := m)
      have hh : hss l = (tre l).trs.map T.hsh := by unfold hss; rw [if_neg he]
      have hh' : hss m = (tre m).trs.map T.hsh := by unfold hss; rw [if_neg he']
      have g1 : gt (hss l) (i : Int) = u.hsh := by rw [hh]; exact (told_of _).2 i u (Nat.zero_le _) u1
      have g2 : gt (hss m) (i : Int) = v.hsh := by rw [hh']; exact (told_of _).2 i v (Nat.zero_le _) v1
      have hf := (T.item_fit u2.2.2).few
      rw [bif_true (decide_eq_true (by omega)), u3]
      simp only [Option.bind_some]
      rw [v3]
      simp only [Option.bind_some]
      rw [keepItem_ok (by omega)]
      simp only [Option.bind_some]
      rw [gd_pos (by omega), gd_pos (by omega), g1, g2, seq_B, w64_nat (x := (i : Int) + 1) (k := i + 1) (by simp) (by omega)]
      have next : Calm l m i → law11_RootValue.l0 x y (hss l) (hss m) fuel ((i + 1 : Nat) : Int) = some (.inr true) ∨ law11_RootValue.l0 x y (hss l) (hss m) fuel ((i + 1 : Nat) : Int) = some (.inl ()) ∧ ∀ i', i ≤ i' → i' < (tri l).length → Calm l m i' := by
        intro hc
        rcases value_l0 hm hl hm' hl' wk hx hy h0 h0' hlen fuel (i + 1) (by omega) with h1 | ⟨h1, h2⟩
        · exact .inl h1
        · refine .inr ⟨h1, fun k' hk1 hk2 => ?_⟩
          rcases Nat.eq_or_lt_of_le hk1 with rfl | hk1
          · exact hc
          · exact h2 k' hk1 hk2
      by_cases c1 : u.item = v.item
      · have hh2 : u.hsh = v.hsh := by rw [T.hsh_item, T.hsh_item, c1]
        rw [decide_eq_true c1, decide_eq_true hh2, bif_true rfl, Bool.not_true, Option.bind_some, bif_false rfl, bif_false rfl, Option.bind_some, bif_false rfl]
        refine next fun a b ha hb _ => ?_
        rw [u1] at ha
        rw [v1] at hb
        cases ha
        cases hb
        exact c1
      · rw [decide_eq_false c1, bif_false rfl, Option.bind_some, bif_false rfl, Bool.not_false, bif_true rfl, gd_pos (by omega), gd_pos (by omega), Option.bind_some]
        by_cases c2 : u.hsh = v.hsh
        · rw [decide_eq_true c2, bif_true rfl, wk]
          exact .inl rfl
        · rw [decide_eq_false c2, bif_false rfl]
          refine next fun a b ha hb hab => ?_
          rw [u1] at ha
          rw [v1] at hb
          cases ha
          cases hb
          exact absurd hab c2
    · rw [bif_false (decide_eq_false (by omega))]
      exact .inr ⟨rfl, fun k' h1 h2 => by omega⟩
theorem zip_get {α : Type} : ∀ {x y : List α} {p : α × α}, p ∈ x.zip y → ∃ i : Nat, x[i]? = some p.1 ∧ y[i]? = some p.2
  | [], _, p, h => by simp at h
  | _ :: _, [], p, h => by simp at h
  | a :: x, b :: y, p, h => by
    rw [List.zip_cons_cons] at h
    rcases List.mem_cons.mp h with rfl | h
    · exact ⟨0, rfl, rfl⟩
    · obtain ⟨i, h1, h2⟩ := zip_get h
      exact ⟨i + 1, by simpa using h1, by simpa using h2⟩
theorem rootValue_plain (wk : law11_wakes.f = some true) (l : List Pair) (a1 : Int) (v : ByteArray) (ha : 0 ≤ a1 ∧ a1 ≤ 255) : law11_RootValue.f l a1 v = some true := by
  unfold law11_RootValue.f
  rcases long_ok l with hL | ⟨hL, hlen⟩
  · rw [hL, Option.bind_some, bif_true rfl, Option.bind_some, bif_true rfl, wk]
    rfl
  rw [hL, Option.bind_some, bif_false rfl]
  rcases (may_ok (l := l) (by omega)).symm with ⟨hm, hM⟩ | ⟨hm, hM⟩
  · rw [hM, Option.bind_some, Bool.not_false, bif_true rfl, Option.bind_some, bif_true rfl, wk]
    rfl
  rw [hM, Option.bind_some, Bool.not_true, bif_false rfl]
  have hl : l.length < 10000 := by omega
  by_cases h0 : l.length = 0
  · rw [bif_true (c := (l.length : Int) == 0) (by simpa using h0), Option.bind_some, bif_true rfl, wk]
    rfl
  rw [bif_false (c := (l.length : Int) == 0) (by simpa using h0)]
  by_cases c1 : 10 < l.length
  · rw [bif_true (decide_eq_true (by omega)), Option.bind_some, bif_true rfl, wk]
    rfl
  rw [bif_false (decide_eq_false (by omega)), Option.bind_some]
  by_cases c2 : 16 < v.size
  · rw [bif_true (decide_eq_true (by omega)), wk]
    rfl
  have hw : w64 a1 = a1 := w64_id (by omega)
  obtain ⟨k, hk⟩ : ∃ k : Nat, a1.tmod (l.length : Int) = (k : Int) := ⟨(a1.tmod (l.length : Int)).toNat, by have := Int.tmod_nonneg (l.length : Int) ha.1; omega⟩
  have hkl : k < l.length := by
    have := Int.tmod_lt_of_pos a1 (show (0 : Int) < (l.length : Int) by omega)
    omega
  have g1 : 0 ≤ (k : Int) ∧ (k : Int) < (l.length : Int) := by omega
  rw [bif_false (decide_eq_false (by omega)), gd_pos (by omega), gd_pos (by simp; omega), List.nil_append, hw, hk, gd_pos g1, Build2_ok hm (by omega), Int.toNat_natCast]
  simp only [Option.bind_some]
  have hbp := near_bp hkl v
  have hm' := may_set hm hkl (v := v) (by omega)
  have hvk : val (l.set k { gt l (k : Int) with value_ := v }) k = v := by
    unfold val
    rw [List.getD_eq_getElem?_getD, List.getElem?_set, if_pos rfl, if_pos hkl]
    rfl
  have hsame : (gt l (k : Int)).value_ = v → l.set k { gt l (k : Int) with value_ := v } = l := by
    intro e
    rw [← e]
    have : ({ gt l (k : Int) with value_ := (gt l (k : Int)).value_ } : Pair) = gt l (k : Int) := rfl
    rw [this, gt_nat, List.getD_eq_getElem?_getD, List.getElem?_eq_getElem hkl]
    simp
  generalize hmm : l.set k { gt l (k : Int) with value_ := v } = m at *
  have hlm : m.length = l.length := by rw [← hmm, List.length_set]
  have p0 : 0 < l.length := by omega
  have p0' : 0 < m.length := by omega
  have htl := tri_len (l := l) p0
  have htl' := tri_len (l := m) p0'
  have hsz := tre_sz (l := l) (by omega) p0
  have hbare : (tre l).bare = (tre m).bare := by rw [tre_bare, tre_bare, hbp]
  have hszz : (tre l).sz = (tre m).sz := by rw [← T.bare_sz (tre l), hbare, T.bare_sz]
  have hs := hss_len (l := l)
  have hs' := hss_len (l := m)
  rw [Build2_ok hm' (by omega)]
  simp only [Option.bind_some]
  rw [all_ok hm hl]
  simp only [Option.bind_some]
  rw [all_ok hm' (by omega)]
  simp only [Option.bind_some, Bool.not_true]
  have b1 : (((hss l).length : Int) != ((tri l).length : Int)) = false := by rw [hs]; simp
  have b2 : (((hss m).length : Int) != ((tri l).length : Int)) = false := by rw [hs', htl, htl', hszz]; simp
  have b3 : (((tri m).length : Int) != ((tri l).length : Int)) = false := by rw [htl, htl', hszz]; simp
  rw [bif_false rfl, bif_false rfl, b1, bif_false rfl, b2, bif_false rfl, b3, Option.bind_some, bif_false rfl, gd_pos g1, seq_B]
  by_cases e : (gt l (k : Int)).value_ = v
  · rw [decide_eq_true e, bif_true rfl, hsame e, texts_same (by omega), Option.bind_some, bif_true rfl, wk]
    rfl
  · rw [decide_eq_false e, bif_false rfl]
    have h1 := value_l0 hm hl hm' (by omega) wk (x := ⟨tri l, trp l, true⟩) (y := ⟨tri m, trp m, true⟩) rfl rfl p0 p0' (by omega) BIG 0 (by have := BIG_ge; omega)
    rw [show ((0 : Nat) : Int) = 0 from rfl] at h1
    rcases h1 with h1 | ⟨h1, h2⟩
    · rw [h1]
      rfl
    · have hz : gt (hss l) 0 = (tre l).hsh := hss_zero (List.length_pos_iff.mp p0)
      have hz' : gt (hss m) 0 = (tre m).hsh := hss_zero (List.length_pos_iff.mp p0')
      have hpos := T.sz_pos (tre l)
      have hne : (tre l).hsh ≠ (tre m).hsh := by
        intro hh
        have ht := T.same2 (tre l) (tre m) hbare (fun p hp hph => by
          obtain ⟨i, i1, i2⟩ := zip_get hp
          have i3 := (List.getElem?_eq_some_iff.mp i1).1
          rw [T.trs_len] at i3
          exact h2 i (Nat.zero_le _) (by omega) p.1 p.2 i1 i2 hph) hh
        have hlm2 : l = m := by rw [← tre_prs hm (by omega) p0, ← tre_prs hm' (by omega) p0', ht]
        apply e
        rw [← hvk, ← hlm2]
        rfl
      rw [h1]
      simp only [Option.bind_some]
      rw [gd_pos (by omega), gd_pos (by omega), hz, hz', seq_B, decide_eq_false hne, Bool.not_false, bif_true rfl, wk]
      rfl
end Go.Lf
