/- The closed run of the laws of layer 17: the document's parts by their laws, the program's by the kernel. -/
import Derived.Test.YtckhmgglgbnaaaaGreatDoorM70
import Derived.Test.YtckhmgglgbnaaaaGreatDoorM51
set_option linter.unusedVariables false
set_option linter.unusedSimpArgs false
namespace Go.Lf
open Go
theorem ref16_l0 {l : List Pair} (he : l ≠ []) {y : ref11_All_T} (hy : y.i_ = its l) {W : List Int} (hW : ∀ x ∈ W, ∃ i : Nat, x = (i : Int) ∧ i < (tri l).length) (hT : (tre l).trs.length = (tri l).length) (hF : ∀ u ∈ (tre l).trs, Fit u.item) (hlen : W.length < 1000000) : ∀ (fuel j : Nat) (acc : List ByteArray), W.length - j < fuel → acc.length = j → ref16_Of.l0 W y fuel (acc, (j : Int)) = some (acc ++ (W.drop j).map (etx l))
 | 0, j, acc, h, _ => by omega
 | fuel + 1, j, acc, h, hj => by
  rw [ref16_Of.l0]
  rcases Nat.lt_or_ge j W.length with hlt | hge
  ·have hg : gt W (j : Int) ∈ W := by
    rw [gt_nat, List.getD_eq_getElem?_getD, List.getElem?_eq_getElem hlt, Option.getD_some]
    exact List.getElem_mem _
   obtain ⟨i, e1, e2⟩ := hW _ hg
   have hi : i < (tre l).trs.length := by omega
   have hu : (tre l).trs[i]? = some (tre l).trs[i] := List.getElem?_eq_getElem hi
   have hI : i < (its l).length ∧ gt (its l) (i : Int) = ((tre l).trs[i]).item := by
    unfold its
    rw [if_neg he]
    refine ⟨by rw [List.length_map]; exact hi, ?_⟩
    rw [gt_nat, List.getD_eq_getElem?_getD, List.getElem?_map, hu]
    rfl
   rw [bif_true (decide_eq_true (by omega)), gd_pos (by omega), e1, hy, gd_pos (by omega), hI.2, renc_ok (hF _ (List.getElem_mem hi))]
   simp only [Option.bind_some]
   rw [gd_pos (by omega), w64_nat (x := (j : Int) + 1) (k := j + 1) (by simp) (by omega), ref16_l0 he hy hW hT hF hlen fuel (j + 1) _ (by omega) (by simp; omega), drop_cons default hlt, List.map_cons]
   have : etx l (W.getD j default) = enc ((tre l).trs[i]).item := by
    rw [← gt_nat, e1]
    unfold etx
    rw [Int.toNat_natCast, hu]
   rw [this, List.append_assoc]
   rfl
  ·rw [bif_false (decide_eq_false (by omega)), List.drop_eq_nil_of_le hge]
   simp
theorem ref16_ok {l : List Pair} (hm : MayP l) (hl : l.length < 10000) (he : l ≠ []) {k : ByteArray} (hk : 1 ≤ k.size ∧ k.size ≤ 8) : ref16_Of.f (tri l) k = some ((wkl l k).map (etx l), 0) := by
 obtain ⟨hlen, hW⟩ := wkl_rg hm hl k
 have hts := tri_short hl
 have h0 : 0 < l.length := List.length_pos_iff.mpr he
 have hT : (tre l).trs.length = (tri l).length := by rw [T.trs_len, tri_len h0]
 unfold ref16_Of.f
 rw [walk2_ok hm hl hk]
 simp only [Option.bind_some]
 rw [bif_false (c := (0 : Int) != 0) rfl, of11_ok hm hl]
 simp only [Option.bind_some]
 have h := ref16_l0 he (y := ⟨its l, hss l, true⟩) rfl hW hT (fun u hu => by
  obtain ⟨i, hi⟩ := List.mem_iff_getElem?.mp hu
  obtain ⟨v, v1, v2, v3⟩ := rItem_ok hm hl h0 (i := i) (by rw [← hT]; exact (List.getElem?_eq_some_iff.mp hi).1)
  rw [hi] at v1
  injection v1 with v1
  subst v1
  exact T.item_fit v2.2.2) (by omega) BIG 0 [] (by have := BIG_ge; omega) rfl
 rw [show ((0 : Nat) : Int) = 0 from rfl] at h
 rw [h]
 simp
theorem wakes17_of {l0 : List Pair} (h00 : l0 = [(⟨(⟨#[97]⟩ : ByteArray), (⟨#[49]⟩ : ByteArray)⟩ : Pair), (⟨(⟨#[98]⟩ : ByteArray), (⟨#[]⟩ : ByteArray)⟩ : Pair)]) {tx0 tx1 tx2 rtx emx : ByteArray} (hs0 : tx0.size < 1000000000) (x_may : ref10_May.f l0 = some true)
  (x_pa : ((ref10_Build.f l0).bind fun y => prove_Of.f y.t_ ⟨#[97]⟩) = some ([tx0, tx1, tx2], 0)) (x_pc : ((ref10_Build.f l0).bind fun y => prove_Of.f y.t_ ⟨#[99]⟩) = some ([tx0, tx1], 0)) (x_dg : digest_Of.f tx0 = some rtx) (x_em : digest_Of.f ⟨#[0]⟩ = some emx)
  (x_1 : verify_Of.f rtx ⟨#[97]⟩ [tx0, tx1, tx2] = some (⟨true, ⟨#[49]⟩⟩, true)) (x_2 : verify_Of.f rtx ⟨#[99]⟩ [tx0, tx1] = some (⟨false, ⟨#[]⟩⟩, true)) (x_3 : verify_Of.f rtx ⟨#[97]⟩ [tx0, tx1] = some (⟨false, ⟨#[]⟩⟩, false)) (x_4 : verify_Of.f rtx ⟨#[97]⟩ (([] ++ [tx0, tx1, tx2]) ++ [⟨#[120]⟩]) = some (⟨false, ⟨#[]⟩⟩, false))
  (x_5 : verify_Of.f emx ⟨#[97]⟩ [] = some (⟨false, ⟨#[]⟩⟩, true)) (x_6 : verify_Of.f rtx ⟨#[97]⟩ [] = some (⟨false, ⟨#[]⟩⟩, false)) (x_7 : verify_Steps.f rtx ⟨#[97]⟩ [tx0, tx1] = some 2) (x_8 : verify_Steps.f rtx ⟨#[]⟩ [tx0, tx1, tx2] = some 0) : law17_wakes.f = some true := by
 have hm : MayP l0 := by
  rcases may_ok (l := l0) (by rw [h00]; decide) with ⟨h, -⟩ | ⟨-, h⟩
  ·exact h
  ·rw [x_may] at h
   cases h
 have hl2 : l0.length = 2 := by rw [h00]; rfl
 have hl : l0.length < 10000 := by omega
 have h0 : 0 < l0.length := by omega
 have he : l0 ≠ [] := List.length_pos_iff.mp h0
 have hB := Build2_ok hm (by omega)
 have ka : 1 ≤ (⟨#[97]⟩ : ByteArray).size ∧ (⟨#[97]⟩ : ByteArray).size ≤ 8 := by decide
 have kc : 1 ≤ (⟨#[99]⟩ : ByteArray).size ∧ (⟨#[99]⟩ : ByteArray).size ≤ 8 := by decide
 have pa := x_pa
 rw [hB, Option.bind_some, prove_ok hm hl ka] at pa
 have pc := x_pc
 rw [hB, Option.bind_some, prove_ok hm hl kc] at pc
 have pa' : (wkl l0 ⟨#[97]⟩).map (etx l0) = [tx0, tx1, tx2] := by
  exact congrArg Prod.fst (Option.some.inj pa)
 have pc' : (wkl l0 ⟨#[99]⟩).map (etx l0) = [tx0, tx1] := by
  exact congrArg Prod.fst (Option.some.inj pc)
 have htl := tri_len (l := l0) h0
 have hpos := T.sz_pos (tre l0)
 obtain ⟨u, hu, hup⟩ := tre_pos hm (by omega) h0 (i := 0) (by omega)
 have hrt : rt l0 = rtx := by
  have h1 : enc u.item = tx0 := by
   have h2 : wkl l0 ⟨#[97]⟩ = wk (tri l0) (tri l0).length (nib ⟨#[97]⟩) ((0 : Nat) : Int) := by unfold wkl; rw [if_neg he]; rfl
   obtain ⟨n, hn⟩ : ∃ n, (tri l0).length = n + 1 := ⟨(tri l0).length - 1, by omega⟩
   rw [h2, hn, wk, List.map_cons] at pa'
   have h3 := (List.cons.inj pa').1
   unfold etx at h3
   rw [Int.toNat_natCast, hu] at h3
   exact h3
  rw [rt_root h0 hu, T.hsh_item, h1]
  have h4 := (dg_ok (s := tx0) hs0).1
  rw [x_dg] at h4
  exact (Option.some.inj h4).symm
 have hem : dg ⟨#[0]⟩ = emx := by
  have h4 := (dg_ok (s := ⟨#[0]⟩) (by decide)).1
  rw [x_em] at h4
  exact (Option.some.inj h4).symm
 unfold law17_wakes.f
 rw [show [(⟨(⟨#[97]⟩ : ByteArray), (⟨#[49]⟩ : ByteArray)⟩ : Pair), (⟨(⟨#[98]⟩ : ByteArray), (⟨#[]⟩ : ByteArray)⟩ : Pair)] = l0 from h00.symm, hB]
 simp only [Option.bind_some]
 rw [root11_ok hm hl, hrt]
 simp only [Option.bind_some]
 rw [ref16_ok hm hl he ka, pa']
 simp only [Option.bind_some]
 rw [ref16_ok hm hl he kc, pc']
 simp only [Option.bind_some]
 rw [x_1]
 simp only [Option.bind_some]
 rw [x_2]
 simp only [Option.bind_some]
 rw [x_3]
 simp only [Option.bind_some]
 rw [gd_pos (by simp), gd_pos (by simp), x_4]
 simp only [Option.bind_some]
 rw [empty11_ok, hem]
 simp only [Option.bind_some]
 rw [x_5]
 simp only [Option.bind_some]
 rw [x_6]
 simp only [Option.bind_some]
 rw [x_7]
 simp only [Option.bind_some]
 rw [x_8]
 rfl
end Go.Lf
