/- The document's hashes of the trie of pairs. -/
import Derived.Test.YtckhmgglgbnaaaaGreatDoorM51
import Derived.Test.YtckhmgglgbnaaaaGreatDoorW04
set_option linter.unusedVariables false
set_option linter.unusedSimpArgs false
namespace Go.Lf
open Go
theorem item11_l1 {a : List Node} {H : List ByteArray} {f : Nat} : ∀ (fuel m : Nat) (ks : Ks) (bk : Nat) (acc : List ByteArray) (M : Nat), 16 - m < fuel → m ≤ 16 → ks.at bk (gt a (f : Int)).kids_ m → 0 < bk → ks.all (Tell H) bk → acc.length ≤ m → M < 2 ^ m →
  ref11_Of.l1 a H (f : Int) fuel (acc, (M : Int), (m : Int)) = some (acc ++ ks.hshs, ((M + ks.mask : Nat) : Int))
 | 0, m, ks, bk, acc, M, h, _, _, _, _, _, _ => by omega
 | fuel + 1, m, ks, bk, acc, M, h, hm, hat, hb, hT, hacc, hM => by
  rw [ref11_Of.l1]
  rcases Nat.lt_or_ge m 16 with h16 | h16
  ·rw [bif_true (decide_eq_true (by omega)), gd_pos (by omega), w64_nat (x := (m : Int) + 1) (k := m + 1) (by simp) (by omega)]
   have hM2 : 2 ^ (m + 1) = 2 ^ m + 2 ^ m := by rw [Nat.pow_succ]; omega
   rcases Ks.at_step hat h16 with ⟨h0, hat'⟩ | ⟨t, r, rfl, h0, hat'⟩
   ·rw [h0, bif_false (c := (0 : Int) != 0) rfl]
    simp only [Option.bind_some]
    exact item11_l1 fuel (m + 1) ks bk acc M (by omega) (by omega) hat' hb hT (by omega) (by omega)
   ·obtain ⟨⟨t1, t2⟩, t3⟩ := hT
    have hpos := T.sz_pos t
    have e : gt H (bk : Int) = t.hsh := t2
    rw [h0, bif_true (c := (bk : Int) != 0) (by simp; omega), wu64_id (x := (m : Int)) (by omega), gd_pos (by omega), gd_pos (by omega), gd_pos (by omega), gd_pos (by omega), e, bor_mask h16 hM]
    simp only [Option.bind_some]
    rw [item11_l1 fuel (m + 1) r (bk + t.sz) _ _ (by omega) (by omega) hat' (by omega) t3 (by simp; omega) (by omega), Ks.hshs, Ks.mask]
    simp [Nat.add_assoc]
  ·rw [bif_false (decide_eq_false (by omega))]
   have : ks = .nil := by
    cases ks with
    | nil => rfl
    | cons c t r =>
     obtain ⟨h1, h2, -⟩ := hat
     omega
   subst this
   simp [Ks.hshs, Ks.mask]
/-- The Items from place i on are told. -/
def ToldI (L : List T) (i : Nat) (I : List Item) : Prop := I.length = L.length ∧ ∀ j u, i ≤ j → L[j]? = some u → I.getD j default = u.item
theorem of11_l0 {a : List Node} {L : List T} (hL : L.length = a.length) (ha : a.length < 1000000000) (hP : ∀ i, i < a.length → ∃ u, L[i]? = some u ∧ Pos a L i u) : ∀ (fuel i : Nat) (I : List Item) (H : List ByteArray), i < fuel → i ≤ a.length → ToldI L i I → Told L i H → ∃ I' H', ref11_Of.l0 a glob_0 glob_1 fuel (I, H, (i : Int) - 1) = some (I', H') ∧ ToldI L 0 I' ∧ Told L 0 H'
 | 0, i, I, H, h, _, _, _ => by omega
 | fuel + 1, i, I, H, h, hi, hTI, hT => by
  rw [ref11_Of.l0]
  rcases Nat.eq_zero_or_pos i with rfl | h0
  ·rw [bif_false (decide_eq_false (by omega))]
   exact ⟨I, H, rfl, hTI, hT⟩
  ·obtain ⟨j, rfl⟩ : ∃ j, i = j + 1 := ⟨i - 1, by omega⟩
   obtain ⟨u, u1, u2⟩ := hP j (by omega)
   have e : (((j + 1 : Nat) : Int) - 1) = (j : Int) := by omega
   have hlen := hT.1
   have hlenI := hTI.1
   have hft := T.item_fit u2.2.2
   have hes := enc_size hft
   have hui : ∃ ks : Ks, ref11_Of.l1 a H (j : Int) BIG (([] : List ByteArray), 0, 0) = some (ks.hshs, (ks.mask : Int)) ∧ (⟨(gt a (j : Int)).kind_, (gt a (j : Int)).path_, (gt a (j : Int)).has_, (gt a (j : Int)).value_, (ks.mask : Int), ks.hshs⟩ : Item) = u.item := by
    obtain ⟨lab, ks⟩ := u
    obtain ⟨p1, p2, p3⟩ := u2
    have hat : ks.at (j + 1) (gt a (j : Int)).kids_ 0 := by rw [p1.get]; exact Ks.at_vec0 p3.2.1
    have hh := item11_l1 (a := a) (H := H) (f := j) BIG 0 ks (j + 1) [] 0 (by have := BIG_ge; omega) (by omega) hat (by omega) (told_kids hT (by omega) p2.kids) (by simp) (by simp)
    rw [show ((0 : Nat) : Int) = 0 from rfl, List.nil_append, Nat.zero_add] at hh
    refine ⟨ks, hh, ?_⟩
    rw [p1.get]
    rfl
   obtain ⟨ks, k1, k2⟩ := hui
   rw [e, bif_true (decide_eq_true (by omega)), gd_pos (by omega), k1]
   simp only [Option.bind_some]
   rw [gd_pos (by omega), k2, renc_ok hft, Option.bind_some, with_ok (by omega), Option.bind_some, gd_pos (by omega)]
   have e2 : w64 ((j : Int) - 1) = (j : Int) - 1 := w64_id (by omega)
   rw [e2, Int.toNat_natCast]
   refine of11_l0 hL ha hP fuel j _ _ (by omega) (by omega) ⟨by rw [List.length_set]; exact hlenI, fun k v hk hv => ?_⟩ ⟨by rw [List.length_set]; exact hlen, fun k v hk hv => ?_⟩
   ·rw [getD_setN (by omega)]
    split
    ·rename_i hjk
     subst hjk
     rw [u1] at hv
     cases hv
     rfl
    ·exact hTI.2 k v (by omega) hv
   ·rw [getD_setN (by omega)]
    split
    ·rename_i hjk
     subst hjk
     rw [u1] at hv
     cases hv
     exact (T.hsh_item u).symm
    ·exact hT.2 k v (by omega) hv
theorem toldI_map {L : List T} {I : List Item} (h : ToldI L 0 I) : I = L.map T.item := by
 apply List.ext_getElem?
 intro i
 rw [List.getElem?_map]
 rcases Nat.lt_or_ge i L.length with hi | hi
 ·have h2 := h.2 i L[i] (Nat.zero_le _) (List.getElem?_eq_getElem hi)
  rw [List.getElem?_eq_getElem hi, List.getElem?_eq_getElem (by rw [h.1]; exact hi)]
  rw [List.getD_eq_getElem?_getD, List.getElem?_eq_getElem (by rw [h.1]; exact hi), Option.getD_some] at h2
  rw [h2]
  rfl
 ·rw [List.getElem?_eq_none (by rw [h.1]; exact hi), List.getElem?_eq_none hi]
  rfl
/-- All Items of the trie of pairs. -/
noncomputable def its (l : List Pair) : List Item := if l = [] then [] else (tre l).trs.map T.item
theorem of11_ok {l : List Pair} (hm : MayP l) (hl : l.length < 10000) : ref11_Of.f (tri l) = some ⟨its l, hss l, true⟩ := by
 unfold ref11_Of.f
 have hts := tri_short hl
 rw [rgood_ok hm hl, Option.bind_some, bif_false (c := !true) rfl, gd_pos (by omega), gd_pos (by omega), Option.bind_some, start04, Option.bind_some, const04, Option.bind_some, Int.toNat_natCast]
 by_cases he : l = []
 ·subst he
  obtain ⟨B, hB⟩ : ∃ B, BIG = B + 1 := ⟨BIG - 1, by have := BIG_ge; omega⟩
  have e1 : tri ([] : List Pair) = [] := rfl
  have e2 : hss ([] : List Pair) = [] := by unfold hss; rw [if_pos rfl]
  have e3 : its ([] : List Pair) = [] := by unfold its; rw [if_pos rfl]
  rw [e1, e2, e3, hB, ref11_Of.l0, bif_false (by decide)]
  rfl
 ·have h0 : 0 < l.length := List.length_pos_iff.mpr he
  have hsz := tre_sz (l := l) (by omega) h0
  have htl := tri_len (l := l) h0
  have hL : (tre l).trs.length = (tri l).length := by rw [T.trs_len, htl]
  have e : w64 (((tri l).length : Int) - 1) = ((tri l).length : Int) - 1 := w64_id (by omega)
  obtain ⟨I, H, h1, h2, h3⟩ := of11_l0 hL (by omega) (fun i hi => tre_pos hm (by omega) h0 hi) BIG (tri l).length (List.replicate (tri l).length ⟨0, (⟨#[]⟩ : ByteArray), false, (⟨#[]⟩ : ByteArray), 0, ([] : List ByteArray)⟩) (List.replicate (tri l).length ⟨#[]⟩) (by have := BIG_ge; omega) (Nat.le_refl _) ⟨by rw [List.length_replicate, hL], fun j u hj hu => by
   have := (List.getElem?_eq_some_iff.mp hu).1
   omega⟩ ⟨by rw [List.length_replicate, hL], fun j u hj hu => by
   have := (List.getElem?_eq_some_iff.mp hu).1
   omega⟩
  rw [e, h1]
  simp only [Option.bind_some]
  rw [toldI_map h2, told_map h3]
  unfold its hss
  rw [if_neg he, if_neg he]
theorem empty11_ok : ref11_Empty.f = some (dg ⟨#[0]⟩) := by
 unfold ref11_Empty.f ref04_Of.f
 rw [start04, Option.bind_some, const04, Option.bind_some, with_ok (by decide)]
 rfl
theorem root11_ok {l : List Pair} (hm : MayP l) (hl : l.length < 10000) : ref11_Root.f (tri l) = some (rt l) := by
 unfold ref11_Root.f
 rw [of11_ok hm hl]
 simp only [Option.bind_some]
 rw [bif_false (c := !true) rfl]
 by_cases he : l = []
 ·subst he
  have e1 : tri ([] : List Pair) = [] := rfl
  rw [e1, bif_true (by rfl), empty11_ok]
  rfl
 ·have h0 : 0 < l.length := List.length_pos_iff.mpr he
  have htl := tri_len (l := l) h0
  have hpos := T.sz_pos (tre l)
  have hs := hss_len (l := l)
  have e : gt (hss l) 0 = (tre l).hsh := hss_zero he
  have hb : (((tri l).length : Int) == 0) = false := by rw [beq_eq_false_iff_ne]; omega
  rw [hb, bif_false rfl, gd_pos (by omega), e]
  unfold rt
  rw [if_neg he]
end Go.Lf
