/- ProveChains, ProveAll as plain laws. -/
import Derived.Test.YtckhmgglgbnaaaaDoorM53
set_option linter.unusedVariables false
set_option linter.unusedSimpArgs false
namespace Go.Lf
open Go
/-- What is needed of a key's walk: it takes of the key at each step. -/
def Shr (a : List Node) : Prop := ∀ i : Nat, i < a.length → (gt a (i : Int)).kind_ = 2 → 0 < (gt a (i : Int)).path_.size
theorem stp_dec {a : List Node} (hk : Shr a) {s : ByteArray} {i : Nat} (hi : i < a.length) (h : (stp a s i).1 ≠ 0) : (stp a s i).2.size < s.size := by
 unfold stp at h ⊢
 split at h
 ·rename_i k2
  rw [if_pos k2]
  split at h
  ·rename_i hp
   rw [if_pos hp]
   have h1 := hk i hi k2
   have h2 := congrArg List.length hp
   rw [List.length_take, B_len, B_len] at h2
   rw [sub_szij (by omega) (Nat.le_refl _)]
   omega
  ·exact absurd rfl h
 ·rename_i k2
  rw [if_neg k2]
  split at h
  ·rename_i k3
   rw [if_pos k3]
   split at h
   ·exact absurd rfl h
   ·rename_i h0
    rw [if_neg h0]
    split at h
    ·exact absurd rfl h
    ·rename_i hv
     rw [if_neg hv]
     have := sub_szij (s := s) (i := 1) (j := s.size) (by omega) (Nat.le_refl _)
     rw [show ((1 : Nat) : Int) = 1 from rfl] at this
     rw [this]
     omega
  ·exact absurd rfl h
theorem wk_short {a : List Node} (hd : Dn a) (hk : Shr a) : ∀ (n : Nat) (s : ByteArray) (i : Nat), Sml s → i < a.length → (wk a n s i).length ≤ s.size + 1
 | 0, _, _, _, _ => by rw [wk]; simp
 | n + 1, s, i, hs, hi => by
  rw [wk]
  rcases stp_rg hd hs hi with h0 | ⟨k, h1, h2, h3⟩
  ·rw [if_pos h0]
   simp
  ·rw [h1, if_neg (by omega)]
   have := wk_short hd hk n (stp a s i).2 k (stp_sml a hs i).1 h3
   have h4 := stp_dec hk (s := s) hi (by rw [h1]; omega)
   simp only [List.length_cons]
   omega
theorem shr_tri {l : List Pair} (hm : MayP l) (hl : l.length < 1000000) (h0 : 0 < l.length) : Shr (tri l) := by
 intro i hi hk
 obtain ⟨u, u1, u2⟩ := tre_pos hm hl h0 hi
 obtain ⟨lab, ks⟩ := u
 obtain ⟨p1, p2, p3⟩ := u2
 rw [p1.get] at hk ⊢
 have hk' : lab.kind = 2 := hk
 show 0 < lab.path.size
 rcases p3.2.2.2.1 with ⟨k1, -⟩ | ⟨-, -, k3, -⟩ | ⟨k1, -⟩
 ·omega
 ·exact k3
 ·omega
theorem at_kid {L : List T} : ∀ (n m : Nat) (ks : Ks) (bk : Nat) (v : V16), 16 - m = n → ks.at bk v m → ks.all (fun t b => LiesT L b t) bk → ∀ c : Nat, m ≤ c → c < 16 → vg v (c : Int) = 0 ∨ ∃ (k : Nat) (t : T), vg v (c : Int) = (k : Int) ∧ L[k]? = some t ∧ t.hsh ∈ ks.hshs
 | 0, m, ks, bk, v, hn, _, _, c, h1, h2 => by omega
 | n + 1, m, ks, bk, v, hn, hat, hall, c, h1, h2 => by
  rcases Ks.at_step hat (by omega) with ⟨h0, hat'⟩ | ⟨t, r, rfl, h0, hat'⟩
  ·rcases Nat.eq_or_lt_of_le h1 with rfl | h1
   ·exact .inl h0
   ·exact at_kid n (m + 1) ks bk v (by omega) hat' hall c h1 h2
  ·rw [Ks.hshs]
   rcases Nat.eq_or_lt_of_le h1 with rfl | h1
   ·exact .inr ⟨bk, t, h0, hall.1.get, List.mem_cons_self ..⟩
   ·rcases at_kid n (m + 1) r _ v (by omega) hat' hall.2 c h1 h2 with h | ⟨k, t', g1, g2, g3⟩
    ·exact .inl h
    ·exact .inr ⟨k, t', g1, g2, List.mem_cons_of_mem _ g3⟩
theorem stp_kid {l : List Pair} (hm : MayP l) (hl : l.length < 1000000) (h0 : 0 < l.length) {s : ByteArray} (hs : Sml s) {i : Nat} {u : T} (hi : i < (tri l).length) (hu : (tre l).trs[i]? = some u) {k : Nat} (hk : (stp (tri l) s i).1 = (k : Int)) (hk0 : 0 < k) : ∃ w, (tre l).trs[k]? = some w ∧ w.hsh ∈ u.item.hashes_ := by
 obtain ⟨u', u1, u2⟩ := tre_pos hm hl h0 hi
 rw [hu] at u1
 cases u1
 obtain ⟨lab, ks⟩ := u
 obtain ⟨p1, p2, p3⟩ := u2
 have hat : ks.at (i + 1) (gt (tri l) (i : Int)).kids_ 0 := by rw [p1.get]; exact Ks.at_vec0 p3.2.1
 have key : ∀ c : Nat, c < 16 → vg (gt (tri l) (i : Int)).kids_ (c : Int) = (k : Int) → ∃ w, (tre l).trs[k]? = some w ∧ w.hsh ∈ ks.hshs := fun c hc hv => by
  rcases at_kid 16 0 ks (i + 1) _ rfl hat p2.kids c (Nat.zero_le _) hc with h | ⟨k', t, g1, g2, g3⟩
  ·omega
  ·obtain rfl : k' = k := by omega
   exact ⟨t, g2, g3⟩
 unfold stp at hk
 split at hk
 ·split at hk
  ·exact key 0 (by omega) hk
  ·simp only at hk; omega
 ·split at hk
  ·split at hk
   ·simp only at hk; omega
   ·rename_i hz
    have hb := bt_sml hs (by omega)
    split at hk
    ·simp only at hk; omega
    ·have := key (bt s 0).toNat (by omega)
     rw [Int.toNat_of_nonneg hb.1] at this
     exact this hk
  ·simp only at hk; omega
theorem any_l1 {hs : List ByteArray} {d : ByteArray} (hl : hs.length < 1000000) : ∀ (fuel k : Nat) (b : Bool), hs.length - k < fuel → ∃ r, law16_ProveChains.l1 hs d fuel (b, (k : Int)) = some r ∧ (b = true ∨ d ∈ hs.drop k → r = true)
 | 0, k, b, h => by omega
 | fuel + 1, k, b, h => by
  rw [law16_ProveChains.l1]
  rcases Nat.lt_or_ge k hs.length with hk | hk
  ·have e : (bif b then some true else gd (0 ≤ (k : Int) ∧ (k : Int) < (hs.length : Int)) <| some (seq_ (gt hs (k : Int)) d)) = some (b || decide (gt hs (k : Int) = d)) := by
    cases b
    ·rw [bif_false rfl, gd_pos (by omega), seq_B]
     rfl
    ·rfl
   rw [bif_true (decide_eq_true (by omega)), e, Option.bind_some, w64_nat (x := (k : Int) + 1) (k := k + 1) (by simp) (by omega)]
   obtain ⟨r, h1, h2⟩ := any_l1 (hs := hs) (d := d) hl fuel (k + 1) (b || decide (gt hs (k : Int) = d)) (by omega)
   refine ⟨r, h1, fun hb => h2 ?_⟩
   rcases hb with hb | hb
   ·exact .inl (by rw [hb]; rfl)
   ·rw [drop_cons default hk] at hb
    rcases List.mem_cons.mp hb with hb | hb
    ·refine .inl ?_
     rw [gt_nat, ← hb]
     simp
    ·exact .inr hb
  ·rw [bif_false (decide_eq_false (by omega))]
   exact ⟨b, rfl, fun hb => by
    rcases hb with hb | hb
    ·exact hb
    ·rw [List.drop_eq_nil_of_le hk] at hb
     cases hb⟩
theorem chain_l0 {l : List Pair} (hm : MayP l) (hl : l.length < 10000) (h0 : 0 < l.length) {W : List Int} (hW : W.length < 1000000) {root : ByteArray} : ∀ (n fuel j i : Nat) (s : ByteArray) (hs : List ByteArray) (u : T), W.drop j = wk (tri l) n s i → W.length + 1 - j < fuel → i < (tri l).length → Sml s → (tre l).trs[i]? = some u → (j = 0 ∧ u.hsh = root ∨ u.hsh ∈ hs) → hs.length ≤ 16 → law16_ProveChains.l0 (W.map (etx l)) root fuel ((j : Int), hs) = some (.inl ())
 | n, 0, j, i, s, hs, u, _, h, _, _, _, _, _ => by
  have : j ≥ W.length + 1 ∨ False := by omega
  omega
 | 0, fuel + 1, j, i, s, hs, u, hd, _, _, _, _, _, _ => by
  rw [wk] at hd
  have := List.drop_eq_nil_iff.mp hd
  rw [law16_ProveChains.l0, bif_false (decide_eq_false (by rw [List.length_map]; omega))]
 | n + 1, fuel + 1, j, i, s, hs, u, hd, hf, hi, hsm, hu, hr, hh => by
  rw [wk] at hd
  have hj : j < W.length := by
   rcases Nat.lt_or_ge j W.length with h | h
   ·exact h
   ·rw [List.drop_eq_nil_of_le h] at hd
    cases hd
  rw [drop_cons default hj] at hd
  simp only [List.cons.injEq] at hd
  obtain ⟨hd1, hd2⟩ := hd
  have hg : gt (W.map (etx l)) (j : Int) = enc u.item := by
   rw [gt_map hj, gt_nat, hd1]
   unfold etx
   rw [Int.toNat_natCast, hu]
  obtain ⟨u', u1, u2⟩ := tre_pos hm (by omega) h0 hi
  rw [hu] at u1
  cases u1
  have hft := T.item_fit u2.2.2
  have hes := enc_size hft
  have hfew := hft.few
  have hb0 : (bif (j : Int) == 0 then some (seq_ (dg (enc u.item)) root) else some false) = some (decide (j = 0 ∧ u.hsh = root)) := by
   by_cases hz : j = 0
   ·subst hz
    rw [bif_true (by rfl), seq_B, ← T.hsh_item]
    simp
   ·rw [bif_false (c := (j : Int) == 0) (by simpa using hz)]
    simp [hz]
  obtain ⟨r, r1, r2⟩ := any_l1 (hs := hs) (d := dg (enc u.item)) (by omega) BIG 0 (decide (j = 0 ∧ u.hsh = root)) (by have := BIG_ge; omega)
  rw [show ((0 : Nat) : Int) = 0 from rfl] at r1
  have hrt : r = true := r2 (by
   rcases hr with hr | hr
   ·exact .inl (decide_eq_true hr)
   ·refine .inr ?_
    rw [List.drop_zero, ← T.hsh_item]
    exact hr)
  rw [law16_ProveChains.l0, bif_true (decide_eq_true (by rw [List.length_map]; omega)), gd_pos (by rw [List.length_map]; omega), hg, (dg_ok (by omega)).1, Option.bind_some, hb0, Option.bind_some, r1, Option.bind_some, gd_pos (by rw [List.length_map]; omega), decode_ok hft]
  simp only [Option.bind_some]
  rw [hrt, bif_false (c := !true) rfl, Option.bind_some, bif_false (c := !true) rfl, w64_nat (x := (j : Int) + 1) (k := j + 1) (by simp) (by omega)]
  rcases stp_rg (dn_tri hm (by omega) h0) hsm hi with e0 | ⟨k, e1, e2, e3⟩
  ·rw [if_pos e0] at hd2
   have := List.drop_eq_nil_iff.mp hd2
   obtain ⟨fuel, rfl⟩ : ∃ f, fuel = f + 1 := ⟨fuel - 1, by omega⟩
   rw [law16_ProveChains.l0, bif_false (decide_eq_false (by rw [List.length_map]; omega))]
  ·rw [e1, if_neg (by omega)] at hd2
   obtain ⟨w, w1, w2⟩ := stp_kid hm (by omega) h0 hsm hi hu e1 (by omega)
   exact chain_l0 hm hl h0 hW n fuel (j + 1) k _ _ w hd2 (by omega) e3 (stp_sml _ hsm _).1 w1 (.inr w2) hfew
theorem proveChains_plain (wk' : law16_wakes.f = some true) (l : List Pair) (a1 : ByteArray) : law16_ProveChains.f l a1 = some true := by
 unfold law16_ProveChains.f
 rcases long_ok l with hL | ⟨hL, hlen⟩
 ·rw [hL, Option.bind_some, bif_true rfl, Option.bind_some, bif_true rfl, wk']
  rfl
 rw [hL, Option.bind_some, bif_false rfl]
 rcases (may_ok (l := l) (by omega)).symm with ⟨hm, hM⟩ | ⟨hm, hM⟩
 ·rw [hM, Option.bind_some, bif_true (c := !false) rfl, Option.bind_some, bif_true rfl, wk']
  rfl
 rw [hM, Option.bind_some, bif_false (c := !true) rfl]
 have hl : l.length < 10000 := by omega
 by_cases c1 : 12 < l.length
 ·rw [bif_true (decide_eq_true (by omega)), Option.bind_some, bif_true rfl, wk']
  rfl
 rw [bif_false (decide_eq_false (by omega)), key12_ok, Option.bind_some]
 by_cases k1 : 1 ≤ a1.size ∧ a1.size ≤ 8
 ·have hts := tri_short hl
  have l1 := (wkl_rg hm hl a1).1
  rw [decide_eq_true k1, Option.bind_some, bif_false (c := !true) rfl, Build2_ok hm (by omega)]
  simp only [Option.bind_some]
  rw [prove_ok hm hl k1]
  simp only [Option.bind_some, List.length_map]
  rw [root11_ok hm hl]
  simp only [Option.bind_some]
  rw [bif_false (c := (0 : Int) != 0) rfl]
  by_cases he : l = []
  ·subst he
   have e1 : tri ([] : List Pair) = [] := rfl
   have e2 : wkl ([] : List Pair) a1 = [] := by unfold wkl; rw [if_pos rfl]
   obtain ⟨B, hB⟩ : ∃ B, BIG = B + 1 := ⟨BIG - 1, by have := BIG_ge; omega⟩
   rw [e1, e2, hB, List.map_nil, law16_ProveChains.l0, bif_false (c := decide ((0 : Int) < (([] : List ByteArray).length : Int))) rfl]
   simp only [Option.bind_some]
   rw [wk']
   rfl
  ·have h0 : 0 < l.length := List.length_pos_iff.mpr he
   have htl := tri_len (l := l) h0
   have hpos := T.sz_pos (tre l)
   have hwl : wkl l a1 = wk (tri l) (tri l).length (nib a1) ((0 : Nat) : Int) := by unfold wkl; rw [if_neg he]; rfl
   have hns := nib_size a1
   have hsh := wk_short (dn_tri hm (by omega) h0) (shr_tri hm (by omega) h0) (tri l).length (nib a1) 0 (sml_nib a1) (by omega)
   rw [← hwl] at hsh
   have hlp : 0 < (wkl l a1).length := by
    rw [hwl]
    obtain ⟨n, hn⟩ : ∃ n, (tri l).length = n + 1 := ⟨(tri l).length - 1, by omega⟩
    rw [hn, wk]
    simp
   have b1 : (((wkl l a1).length : Int) == 0) = false := by rw [beq_eq_false_iff_ne]; omega
   have b2 : (((tri l).length : Int) == 0) = false := by rw [beq_eq_false_iff_ne]; omega
   obtain ⟨u, u1, u2⟩ := tre_pos hm (by omega) h0 (show 0 < (tri l).length by omega)
   have hut : u = tre l := by
    have : (tre l).trs[0]? = some (tre l) := by
     generalize tre l = t
     obtain ⟨lab, ks⟩ := t
     simp [T.trs]
    rw [this] at u1
    exact (Option.some.inj u1).symm
   have hch := chain_l0 hm hl h0 (W := wkl l a1) (by omega) (root := rt l) (tri l).length BIG 0 0 (nib a1) [] u (by rw [List.drop_zero, hwl]) (by have := BIG_ge; omega) (by omega) (sml_nib a1) u1 (.inl ⟨rfl, by rw [hut]; unfold rt; rw [if_neg he]⟩) (by simp)
   rw [show ((0 : Nat) : Int) = 0 from rfl] at hch
   rw [b1, b2, bif_false (c := !(false == false)) rfl, Option.bind_some, bif_false (decide_eq_false (by omega)), hch]
   simp only [Option.bind_some]
   rw [wk']
   rfl
 ·rw [decide_eq_false k1, Option.bind_some, bif_true (c := !false) rfl, wk']
  rfl
end Go.Lf
