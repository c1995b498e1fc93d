/- ProveAll as a plain law. -/
import Derived.Test.YtckhmgglgbnaaaaDoorM53
set_option linter.unusedVariables false
set_option linter.unusedSimpArgs false
namespace Go.Lf
open Go
mutual
theorem T.prs_ne : ∀ (t : T) (p : ByteArray), t.fit → ∃ q v s, (q, v) ∈ t.prs p ∧ q = p ++ s
 | .node l ks, p, hf => by
  by_cases hh : l.has = true
  ·exact ⟨p ++ l.path, l.value, l.path, by rw [T.prs, if_pos hh]; simp, rfl⟩
  ·obtain ⟨-, -, -, h4, h5⟩ := hf
   have hne : ks ≠ .nil := by
    rcases h4 with ⟨-, k2, -⟩ | ⟨-, -, -, t, k4⟩ | ⟨-, -, k3 | ⟨k3, -⟩⟩
    ·exact absurd k2 hh
    ·rw [k4]; exact fun h => by cases h
    ·intro h; rw [h] at k3; simp [Ks.cnt] at k3
    ·exact absurd k3 hh
   obtain ⟨q, v, s, g1, g2⟩ := Ks.prs_ne ks (p ++ l.path) (l.kind == 3) h5 hne
   exact ⟨q, v, l.path ++ s, by rw [T.prs]; exact List.mem_append_right _ g1, by rw [g2, app_ass]⟩
theorem Ks.prs_ne : ∀ (ks : Ks) (q : ByteArray) (br : Bool), ks.fit → ks ≠ .nil → ∃ q' v s, (q', v) ∈ ks.prs q br ∧ q' = q ++ s
 | .nil, q, br, _, h => absurd rfl h
 | .cons c t r, q, br, hf, _ => by
  obtain ⟨q', v, s, g1, g2⟩ := T.prs_ne t (if br = true then q ++ strOfNums [(c : Int)] else q) hf.1
  refine ⟨q', v, (if br = true then strOfNums [(c : Int)] ++ s else s), by rw [Ks.prs]; exact List.mem_append_left _ g1, ?_⟩
  rw [g2]
  split
  ·rw [app_ass]
  ·rfl
end
mutual
theorem T.prs_wf : ∀ (t : T) (p : ByteArray), t.wf p → ∀ q v, (q, v) ∈ t.prs p → q.size % 2 = 0 ∧ Sml q
 | .node l ks, p, hw, q, v, h => by
  obtain ⟨-, -, w3, -, w5⟩ := hw
  rw [T.prs] at h
  rcases List.mem_append.mp h with h | h
  ·split at h
   ·rename_i hh
    simp only [List.mem_singleton, Prod.mk.injEq] at h
    rw [h.1]
    exact w3 hh
   ·cases h
  ·exact Ks.prs_wf ks _ _ w5 q v h
theorem Ks.prs_wf : ∀ (ks : Ks) (p : ByteArray) (br : Bool), ks.wf p br → ∀ q v, (q, v) ∈ ks.prs p br → q.size % 2 = 0 ∧ Sml q
 | .nil, p, br, _, q, v, h => by rw [Ks.prs] at h; cases h
 | .cons c t r, p, br, hw, q, v, h => by
  rw [Ks.prs] at h
  rcases List.mem_append.mp h with h | h
  ·exact T.prs_wf t _ hw.1 q v h
  ·exact Ks.prs_wf r _ _ hw.2 q v h
end
theorem sub_app (x y : ByteArray) : sub (x ++ y) (x.size : Int) ((x ++ y).size : Int) = y := by
 apply B_inj
 rw [B_sub, Int.toNat_natCast, Int.toNat_natCast, List.take_of_length_le (by rw [B_len]; omega), B_append, ← B_len x, List.drop_left]
theorem B_nibc {c : Nat} (h : c < 16) : B (strOfNums [(c : Int)]) = [c] := by
 rw [B_strOfNums (by intro x hx; simp only [List.mem_singleton] at hx; omega)]
 rfl
mutual
theorem T.way {a : List Node} : ∀ (t : T) (b : Nat) (p : ByteArray), Lies a b t → t.fit → ∀ x, b ≤ x → x < b + t.sz → ∃ q v s, (q, v) ∈ t.prs p ∧ q = p ++ s ∧ ∀ n, a.length - b ≤ n → (x : Int) ∈ wk a n s (b : Int)
 | .node l ks, b, p, hl, hf, x, h1, h2 => by
  have hlt := hl.lt
  have hsz : (T.node l ks).sz = ks.sz + 1 := rfl
  rcases Nat.eq_or_lt_of_le h1 with rfl | h1
  ·obtain ⟨q, v, s, g1, g2⟩ := T.prs_ne (.node l ks) p hf
   refine ⟨q, v, s, g1, g2, fun n hn => ?_⟩
   obtain ⟨n, rfl⟩ : ∃ n', n = n' + 1 := ⟨n - 1, by omega⟩
   rw [wk]
   exact List.mem_cons_self ..
  ·have hg := hl.get
   have hat : ks.at (b + 1) (gt a (b : Int)).kids_ 0 := by rw [hg]; exact Ks.at_vec0 hf.2.1
   obtain ⟨c, b', q, v, s', g1, g2, g3, g4, g5, g6, g7⟩ := Ks.way ks (b + 1) (p ++ l.path) (l.kind == 3) 0 (gt a (b : Int)).kids_ hl.kids hf.2.2.2.2 hat x h1 (by omega)
   have e1 : (gt a (b : Int)).path_ = l.path := by rw [hg]; rfl
   have e4 : (gt a (b : Int)).kind_ = l.kind := by rw [hg]; rfl
   have goal : ∀ s : ByteArray, stp a s (b : Int) = ((b' : Int), s') → ∀ n, a.length - b ≤ n → (x : Int) ∈ wk a n s (b : Int) := fun s hs n hn => by
    obtain ⟨n, rfl⟩ : ∃ n', n = n' + 1 := ⟨n - 1, by omega⟩
    rw [wk, hs, if_neg (by show ¬ (b' : Int) = 0; omega)]
    exact List.mem_cons_of_mem _ (g7 n (by omega))
   rcases hf.2.2.2.1 with ⟨-, -, k3⟩ | ⟨k1, -, -, t, k4⟩ | ⟨k1, k2, -⟩
   ·have hz0 : ks.sz = 0 := by rw [k3]; rfl
    omega
   ·have hc := g4 t k4
    rw [k1] at g6
    rw [if_neg (by decide)] at g6
    refine ⟨q, v, l.path ++ s', by rw [T.prs]; exact List.mem_append_right _ (by rw [k1]; rw [k1] at g5; exact g5), by rw [g6, app_ass], goal _ ?_⟩
    unfold stp
    rw [e4, if_pos k1, e1, if_pos (by rw [B_append, ← B_len, List.take_left]), sub_app]
    rw [hc] at g1
    rw [← g1]
    rfl
   ·rw [k1] at g6
    rw [if_pos (by decide)] at g6
    refine ⟨q, v, strOfNums [(c : Int)] ++ s', by rw [T.prs]; exact List.mem_append_right _ g5, by rw [g6, k2, apnil, app_ass], goal _ ?_⟩
    have hb : bt (strOfNums [(c : Int)] ++ s') 0 = (c : Int) := by
     rw [bt_B, B_append, B_nibc g2]
     rfl
    have h1s : (strOfNums [(c : Int)]).size = 1 := by rw [strOfNums_size]; rfl
    have hz : (strOfNums [(c : Int)] ++ s').size ≠ 0 := by rw [app_size, h1s]; omega
    have hsub := sub_app (strOfNums [(c : Int)]) s'
    rw [h1s, show ((1 : Nat) : Int) = 1 from rfl] at hsub
    unfold stp
    rw [e4, k1, if_neg (by decide), if_pos rfl, if_neg hz, hb, g1, if_neg (by omega), hsub]
theorem Ks.way {a : List Node} : ∀ (ks : Ks) (bk : Nat) (q : ByteArray) (br : Bool) (m : Nat) (vv : V16), ks.all (fun t i => Lies a i t) bk → ks.fit → ks.at bk vv m → ∀ x, bk ≤ x → x < bk + ks.sz →
  ∃ (c b' : Nat) (q' v s' : ByteArray), vg vv (c : Int) = (b' : Int) ∧ c < 16 ∧ bk ≤ b' ∧ (∀ t, ks = .cons 0 t .nil → c = 0) ∧ (q', v) ∈ ks.prs q br ∧ q' = (if br = true then q ++ strOfNums [(c : Int)] else q) ++ s' ∧ ∀ n, a.length - b' ≤ n → (x : Int) ∈ wk a n s' (b' : Int)
 | .nil, bk, q, br, m, vv, _, _, _, x, h1, h2 => by simp only [Ks.sz] at h2; omega
 | .cons c t r, bk, q, br, m, vv, hl, hf, hat, x, h1, h2 => by
  have hsz : (Ks.cons c t r).sz = t.sz + r.sz := rfl
  obtain ⟨a1, a2, a3, a4, a5⟩ := hat
  rcases Nat.lt_or_ge x (bk + t.sz) with hx | hx
  ·obtain ⟨q', v, s, g1, g2, g3⟩ := T.way t bk (if br = true then q ++ strOfNums [(c : Int)] else q) hl.1 hf.1 x h1 hx
   refine ⟨c, bk, q', v, s, a4, a2, Nat.le_refl _, fun t' h => ?_, by rw [Ks.prs]; exact List.mem_append_left _ g1, g2, g3⟩
   cases h
   rfl
  ·obtain ⟨c', b', q', v, s', g1, g2, g3, g4, g5, g6, g7⟩ := Ks.way r (bk + t.sz) q br (c + 1) vv hl.2 hf.2 a5 x hx (by omega)
   refine ⟨c', b', q', v, s', g1, g2, by omega, fun t' h => ?_, by rw [Ks.prs]; exact List.mem_append_right _ g5, g6, g7⟩
   cases h
   have hz0 : Ks.nil.sz = 0 := rfl
   omega
end
theorem nib_pck {q : ByteArray} (h : q.size % 2 = 0) (hm : Sml q) : nib (pck q) = q := by
 apply B_inj
 rw [B_nib, B_pck hm, nbl_pk hm, B_len, if_neg (by omega), List.append_nil]
theorem some_way {l : List Pair} (hm : MayP l) (hl : l.length < 10000) (h0 : 0 < l.length) {x : Nat} (hx : x < (tri l).length) : ∃ i, i < l.length ∧ (x : Int) ∈ wkl l (key l i) := by
 have he : l ≠ [] := List.length_pos_iff.mp h0
 have htl := tri_len (l := l) h0
 obtain ⟨q, v, s, g1, g2, g3⟩ := T.way (a := tri l) (tre l) 0 ⟨#[]⟩ ⟨[], [], by rw [tri, if_neg he]; simp, rfl⟩ (tre_fit hm (by omega) h0) x (Nat.zero_le _) (by omega)
 have hs : q = s := by
  rw [g2]
  exact B_inj (by rw [B_append, B_empty, List.nil_append])
 subst hs
 obtain ⟨w1, w2⟩ := T.prs_wf (tre l) ⟨#[]⟩ (tre_wf hm (by omega) h0) q v g1
 have hmem : prp (q, v) ∈ l := by
  rw [← tre_prs hm (by omega) h0]
  exact List.mem_map.mpr ⟨_, g1, rfl⟩
 obtain ⟨i, hi, e⟩ := List.mem_iff_getElem.mp hmem
 have hk : key l i = pck q := by
  unfold key
  rw [List.getD_eq_getElem?_getD, List.getElem?_eq_getElem hi, Option.getD_some, e]
  rfl
 refine ⟨i, hi, ?_⟩
 unfold wkl
 rw [if_neg he, hk, nib_pck w1 w2]
 exact g3 _ (by omega)
theorem its_at {l : List Pair} (he : l ≠ []) {i : Nat} {u : T} (hu : (tre l).trs[i]? = some u) : i < (its l).length ∧ gt (its l) (i : Int) = u.item := by
 have hlt := (List.getElem?_eq_some_iff.mp hu).1
 unfold its
 rw [if_neg he]
 refine ⟨by rw [List.length_map]; exact hlt, ?_⟩
 rw [gt_nat, List.getD_eq_getElem?_getD, List.getElem?_map, hu]
 rfl
theorem all_l1 {l : List Pair} (hm : MayP l) (hl : l.length < 10000) (h0 : 0 < l.length) {W : List Int} (hW : ∀ x ∈ W, ∃ i : Nat, x = (i : Int) ∧ i < (tri l).length) (hlen : W.length < 1000000) : ∀ (fuel j : Nat) (H : List Bool), W.length - j < fuel → H.length = (tri l).length →
  ∃ H', law16_ProveAll.l1 ⟨its l, hss l, true⟩ (W.map (etx l)) W fuel (H, (j : Int)) = some (.inl H') ∧ H'.length = (tri l).length ∧ ∀ x : Nat, (H.getD x false = true ∨ (x : Int) ∈ W.drop j) → H'.getD x false = true
 | 0, j, H, h, _ => by omega
 | fuel + 1, j, H, h, hH => by
  rw [law16_ProveAll.l1]
  rcases Nat.lt_or_ge j W.length with hj | hj
  ·have he : l ≠ [] := List.length_pos_iff.mp h0
   have hg : gt W (j : Int) ∈ W := by
    rw [gt_nat, List.getD_eq_getElem?_getD, List.getElem?_eq_getElem hj, Option.getD_some]
    exact List.getElem_mem _
   obtain ⟨i, e1, e2⟩ := hW _ hg
   obtain ⟨u, u1, u2⟩ := tre_pos hm (by omega) h0 e2
   have hft := T.item_fit u2.2.2
   have hfew := hft.few
   obtain ⟨i1, i2⟩ := its_at he u1
   have hgm : gt (W.map (etx l)) (j : Int) = enc u.item := by
    rw [gt_map hj, e1]
    unfold etx
    rw [Int.toNat_natCast, u1]
   rw [bif_true (decide_eq_true (by omega)), gd_pos (by rw [List.length_map]; omega), hgm, decode_ok hft]
   simp only [Option.bind_some]
   rw [bif_false (c := !true) rfl, gd_pos (by omega), e1]
   rw [gd_pos (by omega), i2, keepItem_ok (by omega), Option.bind_some, decide_eq_true rfl, Option.bind_some, bif_false (c := !true) rfl, gd_pos (by omega), gd_pos (by omega), Int.toNat_natCast, w64_nat (x := (j : Int) + 1) (k := j + 1) (by simp) (by omega)]
   obtain ⟨H', h1, h2, h3⟩ := all_l1 hm hl h0 hW hlen fuel (j + 1) (H.set i true) (by omega) (by rw [List.length_set]; exact hH)
   refine ⟨H', h1, h2, fun x hx => h3 x ?_⟩
   rw [getD_setN (by omega)]
   rcases hx with hx | hx
   ·refine .inl ?_
    split
    ·rfl
    ·exact hx
   ·rw [drop_cons default hj] at hx
    rcases List.mem_cons.mp hx with hx | hx
    ·refine .inl ?_
     rw [← gt_nat, e1] at hx
     rw [if_pos (by omega)]
    ·exact .inr hx
  ·rw [bif_false (decide_eq_false (by omega))]
   refine ⟨H, rfl, hH, fun x hx => ?_⟩
   rcases hx with hx | hx
   ·exact hx
   ·rw [List.drop_eq_nil_of_le hj] at hx
    cases hx
theorem all_l0 {l : List Pair} (hm : MayP l) (hl : l.length < 10000) (h0 : 0 < l.length) {y : ref10_Both_T} (hy : y.t_ = tri l) : ∀ (fuel i : Nat) (H : List Bool), l.length - i < fuel → H.length = (tri l).length →
  ∃ H', law16_ProveAll.l0 l y ⟨its l, hss l, true⟩ fuel (H, (i : Int)) = some (.inl H') ∧ H'.length = (tri l).length ∧ ∀ x : Nat, (H.getD x false = true ∨ ∃ i', i ≤ i' ∧ i' < l.length ∧ (x : Int) ∈ wkl l (key l i')) → H'.getD x false = true
 | 0, i, H, h, _ => by omega
 | fuel + 1, i, H, h, hH => by
  rw [law16_ProveAll.l0, hy]
  rcases Nat.lt_or_ge i l.length with hi | hi
  ·have hk := hm i hi
   have hk2 : 1 ≤ (key l i).size ∧ (key l i).size ≤ 8 := ⟨hk.1, hk.2.1⟩
   have hts := tri_short hl
   obtain ⟨r1, r2⟩ := wkl_rg hm hl (key l i)
   rw [bif_true (decide_eq_true (by omega)), gd_pos (by omega), key_gt, prove_ok hm hl hk2]
   simp only [Option.bind_some]
   rw [gd_pos (by omega), walk2_ok hm hl hk2]
   simp only [Option.bind_some]
   obtain ⟨H', h1, h2, h3⟩ := all_l1 hm hl h0 r2 (by omega) BIG 0 H (by have := BIG_ge; omega) hH
   rw [show ((0 : Nat) : Int) = 0 from rfl] at h1
   obtain ⟨H2, g1, g2, g3⟩ := all_l0 hm hl h0 hy fuel (i + 1) H' (by omega) h2
   rw [bif_false (c := (0 : Int) != 0) rfl, Option.bind_some, bif_false (by simp), h1]
   simp only [Option.bind_some]
   rw [w64_nat (x := (i : Int) + 1) (k := i + 1) (by simp) (by omega)]
   refine ⟨H2, g1, g2, fun x hx => g3 x ?_⟩
   rcases hx with hx | ⟨i', q1, q2, q3⟩
   ·exact .inl (h3 x (.inl hx))
   ·rcases Nat.eq_or_lt_of_le q1 with rfl | q1
    ·exact .inl (h3 x (.inr (by rw [List.drop_zero]; exact q3)))
    ·exact .inr ⟨i', q1, q2, q3⟩
  ·rw [bif_false (decide_eq_false (by omega))]
   refine ⟨H, rfl, hH, fun x hx => ?_⟩
   rcases hx with hx | ⟨i', q1, q2, q3⟩
   ·exact hx
   ·omega
theorem all_l2 {H : List Bool} (hl : H.length < 1000000) (hH : ∀ x, x < H.length → H.getD x false = true) : ∀ (fuel i : Nat), H.length - i < fuel → law16_ProveAll.l2 H fuel (i : Int) = some (.inl ())
 | 0, i, h => by omega
 | fuel + 1, i, h => by
  rw [law16_ProveAll.l2]
  rcases Nat.lt_or_ge i H.length with hi | hi
  ·have hg : gt H (i : Int) = true := by
    have := hH i hi
    rw [gt_nat]
    rw [List.getD_eq_getElem?_getD, List.getElem?_eq_getElem hi] at this ⊢
    exact this
   rw [bif_true (decide_eq_true (by omega)), gd_pos (by omega), hg, bif_false (c := !true) rfl, w64_nat (x := (i : Int) + 1) (k := i + 1) (by simp) (by omega)]
   exact all_l2 hl hH fuel (i + 1) (by omega)
  ·rw [bif_false (decide_eq_false (by omega))]
theorem proveAll_plain (wk' : law16_wakes.f = some true) (l : List Pair) : law16_ProveAll.f l = some true := by
 unfold law16_ProveAll.f
 rcases long_ok l with hL | ⟨hL, hlen⟩
 ·rw [hL, Option.bind_some, bif_true rfl, Option.bind_some, bif_true rfl, wk']
  rfl
 rw [hL, Option.bind_some, bif_false rfl]
 rcases (may_ok (l := l) (by omega)).symm with ⟨hm, hM⟩ | ⟨hm, hM⟩
 ·rw [hM, Option.bind_some, bif_true (c := !false) rfl, Option.bind_some, bif_true rfl, wk']
  rfl
 rw [hM, Option.bind_some, bif_false (c := !true) rfl]
 have hl : l.length < 10000 := by omega
 rw [Option.bind_some]
 by_cases c1 : 10 < l.length
 ·rw [bif_true (decide_eq_true (by omega)), wk']
  rfl
 have hts := tri_short hl
 rw [bif_false (decide_eq_false (by omega)), Build2_ok hm (by omega), Option.bind_some]
 simp only
 rw [gd_pos (by omega), of11_ok hm hl, Option.bind_some, Int.toNat_natCast]
 by_cases he : l = []
 ·subst he
  have e1 : tri ([] : List Pair) = [] := rfl
  obtain ⟨B, hB⟩ : ∃ B, BIG = B + 1 := ⟨BIG - 1, by have := BIG_ge; omega⟩
  rw [e1, hB, law16_ProveAll.l0, bif_false (decide_eq_false (by decide))]
  simp only [Option.bind_some]
  rw [show (List.replicate ([] : List Node).length false) = [] from rfl, law16_ProveAll.l2, bif_false (decide_eq_false (by decide))]
  simp only [Option.bind_some]
  rw [wk']
  rfl
 ·have h0 : 0 < l.length := List.length_pos_iff.mpr he
  obtain ⟨H', h1, h2, h3⟩ := all_l0 hm hl h0 (y := ⟨tri l, trp l, true⟩) rfl BIG 0 (List.replicate (tri l).length false) (by have := BIG_ge; omega) (by simp)
  rw [show ((0 : Nat) : Int) = 0 from rfl] at h1
  have h4 := all_l2 (H := H') (by omega) (fun x hx => h3 x (.inr (by
   obtain ⟨i, i1, i2⟩ := some_way hm hl h0 (x := x) (by omega)
   exact ⟨i, Nat.zero_le _, i1, i2⟩))) BIG 0 (by have := BIG_ge; omega)
  rw [show ((0 : Nat) : Int) = 0 from rfl] at h4
  rw [h1]
  simp only [Option.bind_some]
  rw [h4]
  simp only [Option.bind_some]
  rw [wk']
  rfl
end Go.Lf
