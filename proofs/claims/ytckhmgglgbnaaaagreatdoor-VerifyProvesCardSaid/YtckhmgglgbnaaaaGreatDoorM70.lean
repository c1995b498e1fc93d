/- VerifyProves as a plain law. -/
import Derived.Test.YtckhmgglgbnaaaaGreatDoorMB
import Derived.Test.YtckhmgglgbnaaaaGreatDoorM52
import Derived.Test.YtckhmgglgbnaaaaGreatDoorM53
set_option linter.unusedVariables false
set_option linter.unusedSimpArgs false
namespace Go.Lf
open Go
/-- The children ahead of a slot. -/
def Ks.blw : Ks → Nat → Ks
 | .nil, _ => .nil
 | .cons d t ks, c => if d < c then .cons d t (ks.blw c) else .nil
theorem Ks.blw_up : ∀ {ks : Ks} {m : Nat}, ks.up m → ∀ c, (ks.blw c).up m
 | .nil, m, _, c => trivial
 | .cons d t ks, m, h, c => by
  rw [Ks.blw]
  split
  ·exact ⟨h.1, h.2.1, Ks.blw_up h.2.2 c⟩
  ·trivial
theorem at_idx {L : List T} : ∀ (ks : Ks) (m b : Nat) (v : V16), 0 < b → ks.up m → m ≤ 16 → ks.at b v m → ks.all (fun t b => LiesT L b t) b → ∀ c, m ≤ c → c < 16 →
  ∃ q, ks.mask = (ks.blw c).mask + 2 ^ c * q ∧ (ks.blw c).mask < 2 ^ c ∧ (vg v (c : Int) = 0 ∧ q % 2 = 0 ∨ ∃ k t, vg v (c : Int) = ((k : Nat) : Int) ∧ 0 < k ∧ q % 2 = 1 ∧ L[k]? = some t ∧ ks.hshs[(ks.blw c).cnt]? = some t.hsh)
 | .nil, m, b, v, hb, hu, hm, hat, hall, c, h1, h2 => ⟨0, rfl, Nat.two_pow_pos _, .inl ⟨hat c h1 h2, rfl⟩⟩
 | .cons d t ks, m, b, v, hb, hu, hm, hat, hall, c, h1, h2 => by
  obtain ⟨g1, g2, g3, g4, g5⟩ := hat
  obtain ⟨u1, u2, u3⟩ := hu
  rcases Nat.lt_trichotomy c d with hc | hc | hc
  ·have hup : (Ks.cons d t ks).up (c + 1) := ⟨by omega, u2, u3⟩
   obtain ⟨r, e1, -, -⟩ := mask_div hup (by omega)
   refine ⟨2 * r, ?_, ?_, .inl ⟨g3 c h1 hc, by omega⟩⟩
   ·rw [Ks.blw, if_neg (by omega), e1, Nat.pow_succ, Nat.mul_assoc]
    simp [Ks.mask]
   ·rw [Ks.blw, if_neg (by omega)]
    exact Nat.two_pow_pos _
  ·subst hc
   obtain ⟨r, e1, -, -⟩ := mask_div u3 (by omega)
   refine ⟨1 + 2 * r, ?_, ?_, .inr ⟨b, t, g4, hb, by omega, hall.1.get, ?_⟩⟩
   ·rw [Ks.blw, if_neg (by omega)]
    show 2 ^ c + ks.mask = 0 + 2 ^ c * (1 + 2 * r)
    rw [e1, Nat.pow_succ, Nat.mul_assoc, Nat.mul_add, Nat.mul_one, Nat.zero_add]
   ·rw [Ks.blw, if_neg (by omega)]
    exact Nat.two_pow_pos _
   ·rw [Ks.blw, if_neg (by omega), Ks.hshs]
    rfl
  ·obtain ⟨q, e1, e2, e3⟩ := at_idx ks (d + 1) (b + t.sz) v (by omega) u3 (by omega) g5 hall.2 c (by omega) h2
   obtain ⟨r, f1, -, -⟩ := mask_div (Ks.blw_up u3 c) (by omega)
   refine ⟨q, ?_, ?_, ?_⟩
   ·rw [Ks.blw, if_pos hc, Ks.mask, Ks.mask, e1]
    omega
   ·rw [Ks.blw, if_pos hc, Ks.mask]
    have h5 : 2 ^ c = 2 ^ (d + 1) * 2 ^ (c - (d + 1)) := by rw [← Nat.pow_add]; congr 1; omega
    rw [f1] at e2 ⊢
    have h6 : r < 2 ^ (c - (d + 1)) := by
     rw [h5] at e2
     exact Nat.lt_of_mul_lt_mul_left e2
    have h7 : 2 ^ (d + 1) * (r + 1) ≤ 2 ^ (d + 1) * 2 ^ (c - (d + 1)) := Nat.mul_le_mul_left _ h6
    have h8 : 2 ^ d < 2 ^ (d + 1) := by rw [Nat.pow_succ]; have := Nat.two_pow_pos d; omega
    rw [h5]
    rw [Nat.mul_add] at h7
    omega
   ·rcases e3 with h | ⟨k, w, k1, k2, k3, k4, k5⟩
    ·exact .inl h
    ·refine .inr ⟨k, w, k1, k2, k3, k4, ?_⟩
     rw [Ks.blw, if_pos hc, Ks.cnt, Ks.hshs, List.getElem?_cons_succ]
     exact k5
theorem shl_two {n : Nat} (h : n < 16) : wu64 ((shl .u64 1 (n : Int)) - 1) = ((2 ^ n - 1 : Nat) : Int) := by
 have : ∀ n : Fin 16, wu64 ((shl .u64 1 ((n.val : Nat) : Int)) - 1) = ((2 ^ n.val - 1 : Nat) : Int) := by decide +kernel
 exact this ⟨n, h⟩
/-- An Item's child by a nibble. -/
theorem kid_ok {L : List T} {lab : Lab} {ks : Ks} {b : Nat} {v : V16} (hb : 0 < b) (hu : ks.up 0) (hat : ks.at b v 0) (hall : ks.all (fun t b => LiesT L b t) b) {c : Nat} (hc : c < 16) :
  (vg v (c : Int) = 0 ∧ verify_kid.f (T.node lab ks).item (c : Int) = some (⟨#[]⟩, false)) ∨ ∃ k t, vg v (c : Int) = ((k : Nat) : Int) ∧ 0 < k ∧ L[k]? = some t ∧ verify_kid.f (T.node lab ks).item (c : Int) = some (t.hsh, true) := by
 obtain ⟨q, e1, e2, e3⟩ := at_idx ks 0 b v hb hu (by omega) hat hall c (by omega) hc
 obtain ⟨r, f1, f2, -⟩ := mask_div hu (by omega)
 have hmk : ks.mask < 65536 := by rw [f1]; simpa using f2
 have hq : ks.mask / 2 ^ c = q := by
  rw [e1, Nat.add_mul_div_left _ _ (Nat.two_pow_pos c), Nat.div_eq_of_lt e2, Nat.zero_add]
 have hmod : ks.mask % 2 ^ c = (ks.blw c).mask := by
  rw [e1, Nat.add_mul_mod_self_left, Nat.mod_eq_of_lt e2]
 have hq2 : q < 65536 := by rw [← hq]; exact Nat.lt_of_le_of_lt (Nat.div_le_self _ _) hmk
 have hm1 : (T.node lab ks).item.mask_ = (ks.mask : Int) := rfl
 have hm2 : (T.node lab ks).item.hashes_ = ks.hshs := rfl
 unfold verify_kid.f
 rw [gd_pos (by omega), hm1, hm2, shri64 _ _ (by omega), hq, band_one hq2]
 rcases e3 with ⟨h1, h2⟩ | ⟨k, t, k1, k2, k3, k4, k5⟩
 ·rw [h2]
  exact .inl ⟨h1, rfl⟩
 ·have hlt := (List.getElem?_eq_some_iff.mp k5).1
  have hc1 : (2 ^ c - 1 : Nat) < 65536 := by
   have : 2 ^ c ≤ 2 ^ 15 := Nat.pow_le_pow_right (by omega) (by omega)
   omega
  have hw : wu64 (ks.mask : Int) = (ks.mask : Int) := by
   have := wrap64_nat ks.mask
   rw [Nat.mod_eq_of_lt (by omega)] at this
   exact this
  have hcnt : popc 16 (ks.blw c).mask = (ks.blw c).cnt := by
   obtain ⟨r', g1, -, g3⟩ := mask_div (Ks.blw_up hu c) (by omega)
   rw [g1, Nat.pow_zero, Nat.one_mul]
   exact g3
  have hbl : (ks.blw c).mask < 65536 := Nat.lt_of_lt_of_le e2 (by
   have : 2 ^ c ≤ 2 ^ 15 := Nat.pow_le_pow_right (by omega) (by omega)
   omega)
  rw [k3, bif_false (c := ((1 : Nat) : Int) == 0) rfl, gd_pos (by omega), hw, shl_two hc, band64 _ _ (by omega) (by omega), Nat.and_two_pow_sub_one_eq_mod, hmod, ones_ok hbl, Option.bind_some, hcnt, gd_pos (by omega)]
  refine .inr ⟨k, t, k1, k2, k4, ?_⟩
  rw [gt_nat, List.getD_eq_getElem?_getD, k5]
  rfl
/-- What a node says of what is left of a key. -/
def ansAt (nd : Node) (s : ByteArray) : Answer := if nd.kind_ ≠ 2 ∧ s = nd.path_ then ⟨nd.has_, nd.value_⟩ else ⟨false, ⟨#[]⟩⟩
def ovr (x : Answer) : verify_state_T := ⟨⟨#[]⟩, ⟨#[]⟩, true, x⟩
theorem over_ok (x : Answer) : verify_over.f x = some (ovr x) := rfl
theorem by_ok {l : List Pair} (hm : MayP l) (hl : l.length < 10000) (h0 : 0 < l.length) {s : ByteArray} (hs : Sml s) {i : Nat} {u : T} (hi : i < (tri l).length) (hu : (tre l).trs[i]? = some u) {st : verify_state_T} (hst : st.p_left_ = s) :
  ((stp (tri l) s i).1 = 0 ∧ verify_state_by.f st u.item = some (ovr (ansAt (gt (tri l) (i : Int)) s))) ∨ ∃ k w, (stp (tri l) s i).1 = ((k : Nat) : Int) ∧ 0 < k ∧ (tre l).trs[k]? = some w ∧ verify_state_by.f st u.item = some ⟨(stp (tri l) s i).2, w.hsh, false, ⟨false, ⟨#[]⟩⟩⟩ := by
 obtain ⟨u', u1, u2⟩ := tre_pos hm (by omega) h0 hi
 rw [hu] at u1
 cases u1
 obtain ⟨lab, ks⟩ := u
 obtain ⟨p1, p2, p3⟩ := u2
 have hat : ks.at (i + 1) (gt (tri l) (i : Int)).kids_ 0 := by rw [p1.get]; exact Ks.at_vec0 p3.2.1
 have hg := p1.get
 have n1 : (gt (tri l) (i : Int)).kind_ = lab.kind := by rw [hg]; rfl
 have n2 : (gt (tri l) (i : Int)).path_ = lab.path := by rw [hg]; rfl
 have n3 : (gt (tri l) (i : Int)).has_ = lab.has := by rw [hg]; rfl
 have n4 : (gt (tri l) (i : Int)).value_ = lab.value := by rw [hg]; rfl
 have i1 : (T.node lab ks).item.kind_ = lab.kind := rfl
 have i2 : (T.node lab ks).item.path_ = lab.path := rfl
 have i3 : (T.node lab ks).item.has_ = lab.has := rfl
 have i4 : (T.node lab ks).item.value_ = lab.value := rfl
 have i5 : (T.node lab ks).item.hashes_ = ks.hshs := rfl
 unfold verify_state_by.f stp ansAt
 rw [n1, n2, n3, n4, i1, i2, i3, i4, i5, hst]
 rcases p3.2.2.2.1 with ⟨k1, k2, k3⟩ | ⟨k1, k2, k3, t, k4⟩ | ⟨k1, k2, k3⟩
 ·rw [k1, bif_false (c := (1 : Int) == 2) rfl, if_neg (by decide), if_neg (by decide), seq_B]
  refine .inl ⟨rfl, ?_⟩
  by_cases h : s = lab.path
  ·rw [decide_eq_true h, bif_true rfl, over_ok, if_pos ⟨by decide, h⟩]
   rfl
  ·rw [decide_eq_false h, bif_false rfl, bif_true (c := (1 : Int) == 1) rfl, over_ok, if_neg (fun e => h e.2)]
   rfl
 ·subst k4
  obtain ⟨g1, g2, g3, g4, g5⟩ := hat
  have hh : (Ks.cons 0 t .nil).hshs = [t.hsh] := by rw [Ks.hshs, Ks.hshs]
  rw [k1, bif_true (c := (2 : Int) == 2) rfl, if_pos rfl, cutP_ok]
  by_cases h : (B s).take lab.path.size = B lab.path
  ·rw [if_pos h, if_pos h]
   simp only [Option.bind_some]
   rw [bif_false (c := !true) rfl, hh, gd_pos (by simp)]
   exact .inr ⟨i + 1, t, by rw [show ((0 : Nat) : Int) = 0 from rfl] at g4; exact g4, by omega, p2.kids.1.get, rfl⟩
  ·rw [if_neg h, if_neg h]
   simp only [Option.bind_some]
   rw [bif_true (c := !false) rfl, over_ok, if_neg (fun e => e.1 rfl)]
   exact .inl ⟨trivial, rfl⟩
 ·rw [k1, bif_false (c := (3 : Int) == 2) rfl, if_neg (by decide), if_pos rfl, k2, seq_B]
  by_cases h : s = ⟨#[]⟩
  ·have hz : s.size = 0 := (emp_iff s).mp h
   rw [decide_eq_true h, bif_true rfl, over_ok, if_pos hz, if_pos ⟨by decide, h⟩]
   exact .inl ⟨rfl, rfl⟩
  ·have hz : s.size ≠ 0 := fun e => h ((emp_iff s).mpr e)
   have hb := bt_sml hs (by omega)
   obtain ⟨c, hc⟩ : ∃ c : Nat, bt s 0 = (c : Int) := ⟨(bt s 0).toNat, by omega⟩
   rw [decide_eq_false h, bif_false rfl, bif_false (c := (3 : Int) == 1) rfl, gd_pos (by omega), if_neg hz, if_neg (c := (3 : Int) ≠ 2 ∧ s = ⟨#[]⟩) (fun e => h e.2), hc]
   rcases kid_ok (lab := lab) (by omega) p3.2.1 hat p2.kids (c := c) (by omega) with ⟨h1, h2⟩ | ⟨k, t, h1, h2, h3, h4⟩
   ·rw [h1, if_pos rfl, h2]
    simp only [Option.bind_some]
    rw [bif_true (c := !false) rfl, over_ok]
    exact .inl ⟨trivial, rfl⟩
   ·rw [h1, if_neg (by omega), h4]
    simp only [Option.bind_some]
    rw [bif_false (c := !true) rfl, gd_pos (by omega)]
    exact .inr ⟨k, t, rfl, h2, h3, rfl⟩
/-- Where the way of a key ends, and what is left there. -/
def wkE (a : List Node) : Nat → ByteArray → Int → Int × ByteArray
 | 0, s, i => (i, s)
 | n + 1, s, i => if (stp a s i).1 = 0 then (i, s) else wkE a n (stp a s i).2 (stp a s i).1
theorem stp_end {a : List Node} {s : ByteArray} {i : Int} (h : (stp a s i).1 = 0) (hk : (gt a i).kind_ = 2 → vg (gt a i).kids_ 0 ≠ 0) : (stp a s i).2 = s := by
 unfold stp at h ⊢
 split at h
 ·rename_i k
  rw [if_pos k]
  split at h
  ·exact absurd h (hk k)
  ·rename_i g
   rw [if_neg g]
 ·rename_i k
  rw [if_neg k]
  split at h
  ·rename_i k3
   rw [if_pos k3]
   split at h
   ·rename_i g
    rw [if_pos g]
   ·rename_i g
    rw [if_neg g]
    split at h
    ·rename_i g2
     rw [if_pos g2]
    ·rename_i g2
     exact absurd h g2
  ·rename_i k3
   rw [if_neg k3]
theorem steps_l0 {l : List Pair} (hm : MayP l) (hl : l.length < 10000) (h0 : 0 < l.length) {W : List Int} (hW : W.length < 1000000) : ∀ (n fuel j i : Nat) (s : ByteArray) (u : T), W.drop j = wk (tri l) n s i → (tri l).length - i ≤ n → W.length + 1 - j < fuel → i < (tri l).length → Sml s → (tre l).trs[i]? = some u →
  verify_steps.l0 (W.map (etx l)) fuel (s, u.hsh, false, false, ⟨#[]⟩, (j : Int)) = some (.inl (⟨#[]⟩, ⟨#[]⟩, true, (ansAt (gt (tri l) (wkE (tri l) n s i).1) (wkE (tri l) n s i).2).has_, (ansAt (gt (tri l) (wkE (tri l) n s i).1) (wkE (tri l) n s i).2).value_))
 | 0, fuel, j, i, s, u, _, hn, _, hi, _, _ => by omega
 | n + 1, 0, j, i, s, u, hd, _, h, _, _, _ => by omega
 | n + 1, fuel + 1, j, i, s, u, hd, hn, hf, hi, hsm, hu => by
  rw [wk] at hd
  have hj : j < W.length := by
   rcases Nat.lt_or_ge j W.length with h | h
   ·exact h
   ·rw [List.drop_eq_nil_of_le h] at hd
    cases hd
  rw [drop_cons default hj] at hd
  simp only [List.cons.injEq] at hd
  obtain ⟨hd1, hd2⟩ := hd
  have hg : gt (W.map (etx l)) (j : Int) = enc u.item := by
   rw [gt_map hj, gt_nat, hd1]
   unfold etx
   rw [Int.toNat_natCast, hu]
  obtain ⟨u', u1, u2⟩ := tre_pos hm (by omega) h0 hi
  rw [hu] at u1
  cases u1
  have hft := T.item_fit u2.2.2
  have hes := enc_size hft
  rw [verify_steps.l0, bif_true (decide_eq_true (by rw [List.length_map]; omega)), gd_pos (by rw [List.length_map]; omega), hg, decode_ok hft]
  simp only [Option.bind_some]
  rw [bif_false (c := false) rfl, bif_false (c := !true) rfl, (dg_ok (by omega)).1, Option.bind_some, Option.bind_some, ← T.hsh_item, seq_self, bif_false (c := !true) rfl, w64_nat (x := (j : Int) + 1) (k := j + 1) (by simp) (by omega), wkE]
  rcases by_ok hm hl h0 hsm hi hu (st := ⟨s, u.hsh, false, ⟨false, ⟨#[]⟩⟩⟩) rfl with ⟨e0, e1⟩ | ⟨k, w, e1, e2, e3, e4⟩
  ·rw [if_pos e0] at hd2
   have := List.drop_eq_nil_iff.mp hd2
   obtain ⟨fuel, rfl⟩ : ∃ f, fuel = f + 1 := ⟨fuel - 1, by omega⟩
   rw [e1, Option.bind_some, verify_steps.l0, bif_false (decide_eq_false (by rw [List.length_map]; omega)), if_pos e0]
   rfl
  ·rcases stp_rg (dn_tri hm (by omega) h0) hsm hi with e5 | ⟨k', e5, e6, e7⟩
   ·omega
   have hkk : k' = k := by omega
   subst hkk
   rw [e1, if_neg (by omega)] at hd2
   rw [e4, Option.bind_some, e1, if_neg (by omega)]
   exact steps_l0 hm hl h0 hW n fuel (j + 1) k' _ w hd2 (by omega) (by omega) e7 (stp_sml _ hsm _).1 e3
theorem gone_l0E {a : List Node} (hd : Dn a) (hk2 : ∀ i : Nat, i < a.length → (gt a (i : Int)).kind_ = 2 → vg (gt a (i : Int)).kids_ 0 ≠ 0) (ha : a.length < 1000000) : ∀ (n fuel i : Nat) (s : ByteArray) (acc : List Int), a.length - i ≤ n → n < fuel → i < a.length → Sml s → acc.length ≤ i →
  ∃ pre, get_gone.l0 a fuel (acc ++ [(i : Int)], (stp a s i).2, (stp a s i).1) = some (acc ++ wk a n s i, (wkE a n s i).2) ∧ acc ++ wk a n s i = pre ++ [(wkE a n s i).1] ∧ ∃ e : Nat, (wkE a n s i).1 = (e : Int) ∧ e < a.length
 | 0, fuel, i, s, acc, h1, _, h3, _, _ => by omega
 | n + 1, 0, i, s, acc, _, h, _, _, _ => by omega
 | n + 1, fuel + 1, i, s, acc, h1, h2, h3, h4, h5 => by
  rw [get_gone.l0, wk, wkE]
  rcases stp_rg hd h4 h3 with h0 | ⟨k, e1, e2, e3⟩
  ·have hs := stp_end h0 (hk2 i h3)
   rw [h0, bif_false (c := (0 : Int) != 0) rfl, if_pos rfl, if_pos rfl, hs]
   exact ⟨acc, rfl, rfl, i, rfl, h3⟩
  ·have hk : ((k : Int) != 0) = true := by simp; omega
   rw [e1, hk, bif_true rfl, gd_pos (by simp; omega), next_ok e3 (stp_sml a h4 i).1 (by simp; omega), if_neg (by omega), if_neg (by omega)]
   obtain ⟨pre, g1, g2, g3⟩ := gone_l0E hd hk2 ha n fuel k (stp a s i).2 (acc ++ [(i : Int)]) (by omega) (by omega) e3 (stp_sml a h4 i).1 (by simp; omega)
   refine ⟨pre, ?_, ?_, g3⟩
   ·rw [Option.bind_some]
    show get_gone.l0 a fuel (acc ++ [(i : Int)] ++ [(k : Int)], (stp a (stp a s i).2 k).2, (stp a (stp a s i).2 k).1) = _
    rw [g1, List.append_assoc]
    rfl
   ·rw [← g2, List.append_assoc]
    rfl
theorem get_ok {l : List Pair} (hm : MayP l) (hl : l.length < 10000) {k : ByteArray} (hk : 1 ≤ k.size ∧ k.size ≤ 8) (h0 : 0 < l.length) : get_Of.f (tri l) k = some (ansAt (gt (tri l) (wkE (tri l) (tri l).length (nib k) 0).1) (wkE (tri l) (tri l).length (nib k) 0).2, 0) := by
 have htl := tri_len (l := l) h0
 have hsz := tre_sz (l := l) (by omega) h0
 have hpos := T.sz_pos (tre l)
 have hnode : ∀ i : Nat, i < (tri l).length → ((gt (tri l) (i : Int)).kind_ = 2 → vg (gt (tri l) (i : Int)).kids_ 0 ≠ 0 ∧ (gt (tri l) (i : Int)).has_ = false) ∧ ((gt (tri l) (i : Int)).has_ = false → (gt (tri l) (i : Int)).value_ = ⟨#[]⟩) := by
  intro i hi
  obtain ⟨u, u1, u2⟩ := tre_pos hm (by omega) h0 hi
  obtain ⟨lab, ks⟩ := u
  obtain ⟨p1, p2, p3⟩ := u2
  have hat : ks.at (i + 1) (gt (tri l) (i : Int)).kids_ 0 := by rw [p1.get]; exact Ks.at_vec0 p3.2.1
  have n1 : (gt (tri l) (i : Int)).kind_ = lab.kind := by rw [p1.get]; rfl
  have n3 : (gt (tri l) (i : Int)).has_ = lab.has := by rw [p1.get]; rfl
  have n4 : (gt (tri l) (i : Int)).value_ = lab.value := by rw [p1.get]; rfl
  rw [n1, n3, n4]
  refine ⟨fun h => ?_, p3.2.2.1⟩
  rcases p3.2.2.2.1 with ⟨k1, k2, k3⟩ | ⟨k1, k2, k3, t, k4⟩ | ⟨k1, k2, k3⟩
  ·omega
  ·subst k4
   obtain ⟨g1, g2, g3, g4, g5⟩ := hat
   rw [show ((0 : Nat) : Int) = 0 from rfl] at g4
   exact ⟨by rw [g4]; omega, k2⟩
  ·omega
 have hn := next_ok (a := tri l) (acc := []) (i := 0) (by omega) (sml_nib k) (by simp)
 rw [show ([] ++ [((0 : Nat) : Int)]) = [(0 : Int)] from rfl] at hn
 obtain ⟨pre, h1, h2, e, h3, h4⟩ := gone_l0E (dn_tri hm (by omega) h0) (fun i hi hk => ((hnode i hi).1 hk).1) (by omega) (tri l).length BIG 0 (nib k) [] (by omega) (by have := BIG_ge; omega) (by omega) (sml_nib k) (by simp)
 rw [List.nil_append] at h1 h2
 have h1' : get_gone.l0 (tri l) BIG ([0], (stp (tri l) (nib k) ((0 : Nat) : Int)).2, (stp (tri l) (nib k) ((0 : Nat) : Int)).1) = some (wk (tri l) (tri l).length (nib k) ((0 : Nat) : Int), (wkE (tri l) (tri l).length (nib k) ((0 : Nat) : Int)).2) := h1
 unfold get_Of.f get_gone.f
 rw [good_ok hm hl, Option.bind_some, bif_false (c := !true) rfl, seq_B, decide_eq_false (fun h => by have := (emp_iff k).mp h; omega), bif_false rfl, Option.bind_some, bif_false (decide_eq_false (by omega)), of_ok (by omega), Option.bind_some]
 have hb : (((tri l).length : Int) == 0) = false := by rw [beq_eq_false_iff_ne]; omega
 rw [hb, bif_false rfl, hn, Option.bind_some]
 show ((((get_gone.l0 (tri l) BIG ([0], (stp (tri l) (nib k) ((0 : Nat) : Int)).2, (stp (tri l) (nib k) ((0 : Nat) : Int)).1)).bind _)).bind _) = _
 rw [h1']
 simp only [Option.bind_some]
 rw [show ((0 : Nat) : Int) = 0 from rfl] at *
 generalize hE : wkE (tri l) (tri l).length (nib k) 0 = q at *
 have hwl := wk_len (tri l) (tri l).length (nib k) 0
 rw [h2] at hwl ⊢
 have hll : (pre ++ [q.1]).length = pre.length + 1 := by simp
 have hlast : gt (pre ++ [q.1]) (pre.length : Int) = q.1 := by
  rw [gt_nat, List.getD_eq_getElem?_getD, List.getElem?_append_right (Nat.le_refl _), Nat.sub_self]
  rfl
 rw [bif_false (c := (0 : Int) != 0) rfl, Option.bind_some, hll, bif_false (c := ((pre.length + 1 : Nat) : Int) == 0) (by rw [beq_eq_false_iff_ne]; omega), w64_nat (x := ((pre.length + 1 : Nat) : Int) - 1) (k := pre.length) (by omega) (by omega), gd_pos (by omega), hlast, h3, gd_pos (by omega), seq_B]
 obtain ⟨f1, f2⟩ := hnode e h4
 unfold ansAt
 cases hh : (gt (tri l) (e : Int)).has_
 ·rw [bif_true (c := !false) rfl, Option.bind_some, bif_true rfl, f2 hh]
  split
  ·rfl
  ·rfl
 ·rw [bif_false (c := !true) rfl, Option.bind_some]
  by_cases hp : q.2 = (gt (tri l) (e : Int)).path_
  ·rw [decide_eq_true hp, bif_false (c := !true) rfl, if_pos ⟨fun h2 => (by have := (f1 h2).2; rw [hh] at this; cases this), hp⟩]
  ·rw [decide_eq_false hp, bif_true (c := !false) rfl, if_neg (fun h => hp h.2)]
theorem rt_root {l : List Pair} (h0 : 0 < l.length) {u : T} (hu : (tre l).trs[0]? = some u) : rt l = u.hsh := by
 have he : l ≠ [] := List.length_pos_iff.mp h0
 have h1 : LiesT (tre l).trs 0 (tre l) := ⟨[], [], by simp, rfl⟩
 have h2 := h1.get
 rw [hu] at h2
 injection h2 with h2
 unfold rt
 rw [if_neg he, h2]
theorem verifyProves_plain (wk' : law17_wakes.f = some true) (l : List Pair) (a1 : ByteArray) : law17_VerifyProves.f l a1 = some true := by
 unfold law17_VerifyProves.f
 rcases long_ok l with hL | ⟨hL, hlen⟩
 ·rw [hL, Option.bind_some, bif_true rfl, Option.bind_some, bif_true rfl, wk']
  rfl
 rw [hL, Option.bind_some, bif_false rfl]
 rcases (may_ok (l := l) (by omega)).symm with ⟨hm, hM⟩ | ⟨hm, hM⟩
 ·rw [hM, Option.bind_some, bif_true (c := !false) rfl, Option.bind_some, bif_true rfl, wk']
  rfl
 rw [hM, Option.bind_some, bif_false (c := !true) rfl]
 have hl : l.length < 10000 := by omega
 by_cases c1 : 12 < l.length
 ·rw [bif_true (decide_eq_true (by omega)), Option.bind_some, bif_true rfl, wk']
  rfl
 rw [bif_false (decide_eq_false (by omega)), key12_ok, Option.bind_some]
 by_cases k1 : 1 ≤ a1.size ∧ a1.size ≤ 8
 ·have hs := tri_short hl
  have l1 := (wkl_rg hm hl a1).1
  have hmay : verify_may.f a1 = some true := by
   unfold verify_may.f
   rw [seq_B, decide_eq_false (fun h => by have := (emp_iff a1).mp h; omega), bif_true (c := !false) rfl, decide_eq_true (by omega)]
   rfl
  rw [decide_eq_true k1, Option.bind_some, bif_false (c := !true) rfl, Build2_ok hm (by omega)]
  simp only [Option.bind_some]
  rw [prove_ok hm hl k1]
  simp only [Option.bind_some]
  rw [root11_ok hm hl]
  simp only [Option.bind_some]
  suffices h : ∃ ans : Answer, verify_Of.f (rt l) a1 ((wkl l a1).map (etx l)) = some (ans, true) ∧ get_Of.f (tri l) a1 = some (ans, 0) ∧ verify_Steps.f (rt l) a1 ((wkl l a1).map (etx l)) = some (((wkl l a1).map (etx l)).length : Int) by
   obtain ⟨ans, h1, h2, h3⟩ := h
   rw [h1]
   simp only [Option.bind_some]
   rw [h2]
   simp only [Option.bind_some]
   rw [bif_true (c := (0 : Int) == 0) rfl, bif_true (c := (0 : Int) == 0) rfl, bif_true rfl, bif_true (c := eq_Answer ans ans) (by simp [eq_Answer]), h3]
   simp only [Option.bind_some]
   rw [bif_true (by simp), wk']
   rfl
  by_cases he : l = []
  ·subst he
   have hw : wkl ([] : List Pair) a1 = [] := by unfold wkl; rw [if_pos rfl]
   refine ⟨⟨false, ⟨#[]⟩⟩, ?_, ?_, ?_⟩
   ·unfold verify_Of.f
    rw [hmay, hw, Option.bind_some, bif_false (c := !true) rfl, bif_true (by rfl), empty_ok, Option.bind_some]
    have : rt ([] : List Pair) = dg ⟨#[0]⟩ := by unfold rt; rw [if_pos rfl]
    rw [this, seq_self]
   ·unfold get_Of.f get_gone.f
    rw [good_ok hm hl, Option.bind_some, bif_false (c := !true) rfl, seq_B, decide_eq_false (fun h => by have := (emp_iff a1).mp h; omega), bif_false rfl, Option.bind_some, bif_false (decide_eq_false (by omega)), of_ok (by omega), Option.bind_some]
    rfl
   ·unfold verify_Steps.f verify_steps.f
    obtain ⟨B, hB⟩ : ∃ B, BIG = B + 1 := ⟨BIG - 1, by have := BIG_ge; omega⟩
    rw [hmay, hw, Option.bind_some, bif_false (c := !true) rfl, of_ok (by omega), Option.bind_some, hB, verify_steps.l0, bif_false (decide_eq_false (by decide))]
    rfl
  ·have h0 : 0 < l.length := List.length_pos_iff.mpr he
   have htl := tri_len (l := l) h0
   have hpos := T.sz_pos (tre l)
   obtain ⟨u, hu, -⟩ := tre_pos hm (by omega) h0 (i := 0) (by omega)
   have hwk : wkl l a1 = wk (tri l) (tri l).length (nib a1) ((0 : Nat) : Int) := by unfold wkl; rw [if_neg he]; rfl
   have hst := steps_l0 hm hl h0 (W := wkl l a1) (by omega) (tri l).length BIG 0 0 (nib a1) u (by rw [List.drop_zero]; exact hwk) (by omega) (by have := BIG_ge; omega) (by omega) (sml_nib a1) hu
   rw [show ((0 : Nat) : Int) = 0 from rfl, ← rt_root h0 hu] at hst
   have hlen0 : ((wkl l a1).map (etx l)).length ≠ 0 := by
    rw [List.length_map, hwk]
    obtain ⟨n, hn⟩ : ∃ n, (tri l).length = n + 1 := ⟨(tri l).length - 1, by omega⟩
    rw [hn, wk]
    simp
   have hsteps : verify_steps.f (rt l) a1 ((wkl l a1).map (etx l)) = some ((((wkl l a1).map (etx l)).length : Int), ovr (ansAt (gt (tri l) (wkE (tri l) (tri l).length (nib a1) 0).1) (wkE (tri l) (tri l).length (nib a1) 0).2)) := by
    unfold verify_steps.f
    rw [of_ok (by omega), Option.bind_some, hst]
    rfl
   refine ⟨ansAt (gt (tri l) (wkE (tri l) (tri l).length (nib a1) 0).1) (wkE (tri l) (tri l).length (nib a1) 0).2, ?_, get_ok hm hl k1 h0, ?_⟩
   ·unfold verify_Of.f
    rw [hmay, Option.bind_some, bif_false (c := !true) rfl, bif_false (c := (((wkl l a1).map (etx l)).length : Int) == 0) (by rw [beq_eq_false_iff_ne]; omega), hsteps]
    simp only [Option.bind_some]
    have hlt : decide ((((wkl l a1).map (etx l)).length : Int) < (((wkl l a1).map (etx l)).length : Int)) = false := decide_eq_false (by omega)
    rw [hlt]
    have : ∀ b : Bool, (bif b then (bif !(ovr (ansAt (gt (tri l) (wkE (tri l) (tri l).length (nib a1) 0).1) (wkE (tri l) (tri l).length (nib a1) 0).2)).p_over_ then some true else some false) else some false) = some false := fun b => by cases b <;> rfl
    rw [this, Option.bind_some]
    rfl
   ·unfold verify_Steps.f
    rw [hmay, Option.bind_some, bif_false (c := !true) rfl, hsteps]
    rfl
 ·rw [decide_eq_false k1, Option.bind_some, bif_true (c := !false) rfl, wk']
  rfl
end Go.Lf
