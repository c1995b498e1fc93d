/- The Go functions compute the plain Lean functions (printed by our lift.py). -/
import Derived.Test.YtckhmgglgbnaaaaDoorZD
import Derived.Test.YtckhmgglgbnaaaaDoorZF
import Derived.Test.YtckhmgglgbnaaaaDoorJ
import Derived.Test.YtckhmgglgbnaaaaDoorZK7
set_option linter.unusedVariables false
set_option linter.unusedSimpArgs false
set_option maxHeartbeats 1000000
set_option maxRecDepth 20000
namespace Go.Lf
open Go
theorem node_Encode_ok {E : World} {I : IH} {F : List Atom} {w : World} {a0 : Item} {a0v4 : Value} {res0 : ByteArray} {res1 : Bool} (hw : Ok E I (F) w) (hG : Gl I) (hR5 : RS ekS I a0v4 a0.hashes_) (hp : node_Encode.f a0 = some (res0, res1)) :
  Calls P 28 ⟨[Value.agg ⟨[Value.int .i64 a0.kind_, Value.string a0.path_, Value.bool a0.has_, Value.string a0.value_, Value.int .i64 a0.mask_, a0v4]⟩]⟩ w fun e w' => ∃ v, e = .returned v ∧ v = Value.tuple ⟨[Value.string res0, Value.bool res1]⟩ ∧ Ok E I (F) w' := by
 refine c_enter Go.Proofs.Tryd.func28 rfl Go.Proofs.Tryd.ntmps28 rfl fun a hf => ?_
 replace hf : Fr 69 [(0, Value.agg ⟨[.int .i64 a0.kind_, .string a0.path_, .bool a0.has_, .string a0.value_, .int .i64 a0.mask_, a0v4]⟩)] a := hf
 unfold node_Encode.f at hp
 refine wq <| wr ?_
 obtain ⟨b1, w, hrun2, hw⟩ := e_box (P := P) hw hf (e := 32) (x := .tmp 0) rfl (cs := [Value.int .i64 a0.kind_, Value.string a0.path_, Value.bool a0.has_, Value.string a0.value_, Value.int .i64 a0.mask_, a0v4]) rfl
 refine o_eff hf (hrun2 ..) rfl fun a hf => oa hf rfl rfl fun a hf => oa hf rfl rfl fun a hf => oN <| ct <| wq <| wq <| wr <| oR hf (r_loadA hw hf rfl ty_32 0 rfl (vs := [Value.int .i64 a0.kind_, Value.string a0.path_, Value.bool a0.has_, Value.string a0.value_, Value.int .i64 a0.mask_, a0v4]) rfl rfl) rfl fun a hf => ?_
 obtain ⟨y190, hy191, hp⟩ := bS hp
 have hc193 := node_Good_ok hw hG hR5 hy191
 refine o_call hf cb_30 rfl rfl hc193 (fun v195 w a hK194 hf => ?_)
 obtain ⟨rfl, hw⟩ := hK194
 refine oR hf (r_not hf rfl) rfl fun a hf => oN <| ct <| cC hf rfl (fun hb196 => ?_) (fun hb196 => ?_)
 ·replace hp := cond_t hb196 hp
  refine wq <| wr <| oa hf rfl rfl fun a hf => oa hf rfl rfl fun a hf => oN <| ct <| wp_ret <| c_thenR ?_
  replace hw : Ok E I (F) w := hw.sub (sc sr)
  have ho := oI hp
  simp only [Prod.mk.injEq] at ho
  obtain ⟨rfl, rfl⟩ := ho
  exact b_ret2 hf Go.Proofs.Tryd.results28 rfl rfl ⟨_, rfl, ⟨rfl, hw⟩⟩
 ·replace hp := cond_f hb196 hp
  refine wp_skip <| ct <| wq <| wr <| oR hf (rF hf rfl fd_32_0) rfl fun a hf => oR hf (rL hw hf rfl ty_3 0 rfl rfl) rfl fun a hf => oR hf (r_convI hf und_3 und_5 rfl) rfl fun a hf => ?_
  obtain ⟨w, v197, hrun198, hw, hRR199⟩ := e_buildSlice (P := P) (K := (ekI .u8)) (m := 1) hw hf (parts := [(0, .tmp 13)]) el_60 ty_5 rfl rfl rfl (ccs := [[Value.int .u8 (wu8 a0.kind_)]]) rfl (xs := [wu8 a0.kind_]) ⟨rfl, trivial⟩ rfl
  obtain ⟨cs200, hcs⟩ : ∃ cs, cs = ([[Value.int .u8 (wu8 a0.kind_)]] : List (List Value)).flatten := ⟨_, rfl⟩
  rw [← hcs] at hw hRR199; clear hcs
  refine o_eff hf (hrun198 ..) rfl fun a hf => oR hf (r_convB hf und_60 und_5 und_9 rfl (rR (K := (ekI .u8)) hw (i := 0) rfl hRR199)) rfl fun a hf => oa hf rfl rfl fun a hf => oN <| ct <| wq <| wr <| oR hf (rF hf rfl fd_32_1) rfl fun a hf => oR hf (rL hw hf rfl ty_9 1 rfl rfl) rfl fun a hf => ?_
  obtain ⟨y43, hy42, hp⟩ := bS hp
  obtain ⟨y40, y41⟩ := y43
  have hc44 := nibble_Pack_ok hw hG hy42
  refine o_call hf cb_51 rfl rfl hc44 (fun v46 w a hK45 hf => ?_)
  obtain ⟨rfl, hw⟩ := hK45
  refine om hf rfl rfl fun a hf => oR hf (rE hf rfl rfl) rfl fun a hf => oR hf (rE hf rfl rfl) rfl fun a hf => oa hf rfl rfl fun a hf => oa hf rfl rfl fun a hf => oN <| ct <| wq <| wr <| oR hf (rF hf rfl fd_32_5) rfl fun a hf => oR hf (rL hw hf rfl ty_28 1 rfl rfl) rfl fun a hf => ?_
  obtain ⟨y49, hy50, hp⟩ := bS hp
  have hc52 := strings_Join_ok hw hG hR5 hy50
  refine o_call hf cb_52 rfl rfl hc52 (fun v54 w a hK53 hf => ?_)
  obtain ⟨rfl, hw⟩ := hK53
  refine oa hf rfl rfl fun a hf => oN <| ct <| wq <| wq <| wr <| oR hf (rF hf rfl fd_32_0) rfl fun a hf => oR hf (rL hw hf rfl ty_3 1 rfl rfl) rfl fun a hf => oN <| ct <| wp_block <| wq <| wr <| oR hf (iC hf rfl rfl rfl) rfl fun a hf => oa hf rfl rfl fun a hf => oN ?_
  refine ct <| cC hf rfl (fun hb55 => ?_) (fun hb55 => ?_)
  ·replace hp := cond_t hb55 hp
   refine wq <| wr <| om hf rfl rfl fun a hf => om hf rfl rfl fun a hf => ?_
   obtain ⟨hg56, hp⟩ := gS hp
   refine oR hf (r_sadd hf rfl rfl hg56) rfl fun a hf => oR hf (rF hf rfl fd_32_3) rfl fun a hf => oR hf (rL hw hf rfl ty_9 1 rfl rfl) rfl fun a hf => ?_
   obtain ⟨y7, hy8, hp⟩ := bS hp
   have hc10 := node_value_ok hw hG hy8
   refine o_call hf cb_53 rfl rfl hc10 (fun v12 w a hK11 hf => ?_)
   obtain ⟨rfl, hw⟩ := hK11
   obtain ⟨hg13, hp⟩ := gS hp
   refine oR hf (r_sadd hf rfl rfl hg13) rfl fun a hf => oa hf rfl rfl fun a hf => oa hf rfl rfl fun a hf => oN <| ct <| wp_ret <| c_blockR <| c_thenR ?_
   replace hw : Ok E I (F) w := hw.sub (sc (sc sr))
   have ho := oI hp
   simp only [Prod.mk.injEq] at ho
   obtain ⟨rfl, rfl⟩ := ho
   exact b_ret2 hf Go.Proofs.Tryd.results28 rfl rfl ⟨_, rfl, ⟨rfl, hw⟩⟩
  ·replace hp := cond_f hb55 hp
   refine wq <| wr <| oR hf (iC hf rfl rfl rfl) rfl fun a hf => oa hf rfl rfl fun a hf => oN <| ct <| cC hf rfl (fun hb14 => ?_) (fun hb14 => ?_)
   ·replace hp := cond_t hb14 hp
    refine wq <| wr <| om hf rfl rfl fun a hf => om hf rfl rfl fun a hf => ?_
    obtain ⟨hg15, hp⟩ := gS hp
    refine oR hf (r_sadd hf rfl rfl hg15) rfl fun a hf => om hf rfl rfl fun a hf => ?_
    obtain ⟨hg16, hp⟩ := gS hp
    refine oR hf (r_sadd hf rfl rfl hg16) rfl fun a hf => oa hf rfl rfl fun a hf => oa hf rfl rfl fun a hf => oN <| ct <| wp_ret <| c_blockR <| c_thenR ?_
    replace hw : Ok E I (F) w := hw.sub (sc (sc sr))
    have ho := oI hp
    simp only [Prod.mk.injEq] at ho
    obtain ⟨rfl, rfl⟩ := ho
    exact b_ret2 hf Go.Proofs.Tryd.results28 rfl rfl ⟨_, rfl, ⟨rfl, hw⟩⟩
   ·replace hp := cond_f hb14 hp
    refine wp_skip <| c_blockN <| ct <| wq <| wr <| om hf rfl rfl fun a hf => oR hf (rF hf rfl fd_32_4) rfl fun a hf => oR hf (rL hw hf rfl ty_3 1 rfl rfl) rfl fun a hf => oR hf (r_shr hf rfl rfl (by decide)) rfl fun a hf => oR hf (r_convI hf und_3 und_5 rfl) rfl fun a hf => oR hf (rF hf rfl fd_32_4) rfl fun a hf => oR hf (rL hw hf rfl ty_3 1 rfl rfl) rfl fun a hf => oR hf (r_convI hf und_3 und_5 rfl) rfl fun a hf => ?_
    obtain ⟨w, v17, hrun18, hw, hRR19⟩ := e_buildSlice (P := P) (K := (ekI .u8)) (m := 2) hw hf (parts := [(0, .tmp 47), (1, .tmp 50)]) el_60 ty_5 rfl rfl rfl (ccs := [[Value.int .u8 (wu8 (shr .i64 a0.mask_ 8))], [Value.int .u8 (wu8 a0.mask_)]]) rfl (xs := [wu8 (shr .i64 a0.mask_ 8), wu8 a0.mask_]) ⟨rfl, rfl, trivial⟩ rfl
    obtain ⟨cs20, hcs⟩ : ∃ cs, cs = ([[Value.int .u8 (wu8 (shr .i64 a0.mask_ 8))], [Value.int .u8 (wu8 a0.mask_)]] : List (List Value)).flatten := ⟨_, rfl⟩
    rw [← hcs] at hw hRR19; clear hcs
    refine o_eff hf (hrun18 ..) rfl fun a hf => oR hf (r_convB hf und_60 und_5 und_9 rfl (rR (K := (ekI .u8)) hw (i := 0) rfl hRR19)) rfl fun a hf => ?_
    obtain ⟨hg22, hp⟩ := gS hp
    refine oR hf (r_sadd hf rfl rfl hg22) rfl fun a hf => oa hf rfl rfl fun a hf => oN <| ct <| wq <| wq <| wr <| oR hf (rF hf rfl fd_32_2) rfl fun a hf => oR hf (rL hw hf rfl ty_4 2 rfl rfl) rfl fun a hf => oR hf (r_not hf rfl) rfl fun a hf => oN <| ct <| cC hf rfl (fun hb23 => ?_) (fun hb23 => ?_)
    ·replace hp := cond_t hb23 hp
     refine wq <| wr <| om hf rfl rfl fun a hf => ?_
     obtain ⟨hg24, hp⟩ := gS hp
     refine oR hf (r_sadd hf rfl rfl hg24) rfl fun a hf => om hf rfl rfl fun a hf => ?_
     obtain ⟨hg25, hp⟩ := gS hp
     refine oR hf (r_sadd hf rfl rfl hg25) rfl fun a hf => oa hf rfl rfl fun a hf => oa hf rfl rfl fun a hf => oN <| ct <| wp_ret <| c_thenR ?_
     replace hw : Ok E I (F) w := hw.sub (sc (sc (sc sr)))
     have ho := oI hp
     simp only [Prod.mk.injEq] at ho
     obtain ⟨rfl, rfl⟩ := ho
     exact b_ret2 hf Go.Proofs.Tryd.results28 rfl rfl ⟨_, rfl, ⟨rfl, hw⟩⟩
    ·replace hp := cond_f hb23 hp
     refine wp_skip <| ct <| wq <| wr <| om hf rfl rfl fun a hf => ?_
     obtain ⟨hg26, hp⟩ := gS hp
     refine oR hf (r_sadd hf rfl rfl hg26) rfl fun a hf => oR hf (rF hf rfl fd_32_3) rfl fun a hf => oR hf (rL hw hf rfl ty_9 2 rfl rfl) rfl fun a hf => ?_
     obtain ⟨y27, hy28, hp⟩ := bS hp
     have hc30 := node_value_ok hw hG hy28
     refine o_call hf cb_53 rfl rfl hc30 (fun v32 w a hK31 hf => ?_)
     obtain ⟨rfl, hw⟩ := hK31
     obtain ⟨hg33, hp⟩ := gS hp
     refine oR hf (r_sadd hf rfl rfl hg33) rfl fun a hf => om hf rfl rfl fun a hf => ?_
     obtain ⟨hg34, hp⟩ := gS hp
     refine oR hf (r_sadd hf rfl rfl hg34) rfl fun a hf => oa hf rfl rfl fun a hf => oa hf rfl rfl fun a hf => oN <| ct <| wp_ret ?_
     replace hw : Ok E I (F) w := hw.sub (sc (sc (sc sr)))
     have ho := oI hp
     simp only [Prod.mk.injEq] at ho
     obtain ⟨rfl, rfl⟩ := ho
     exact b_ret2 hf Go.Proofs.Tryd.results28 rfl rfl ⟨_, rfl, ⟨rfl, hw⟩⟩

theorem digest_Pad_ok {E : World} {I : IH} {F : List Atom} {w : World} {a0 : Int} {res0 : ByteArray} (hw : Ok E I (F) w) (hG : Gl I) (hp : digest_Pad.f a0 = some res0) :
  Calls P 56 ⟨[Value.int .i64 a0]⟩ w fun e w' => ∃ v, e = .returned v ∧ v = Value.string res0 ∧ Ok E I (F) w' := by
 refine c_enter Go.Proofs.Tryd.func56 rfl Go.Proofs.Tryd.ntmps56 rfl fun a hf => ?_
 replace hf : Fr 39 [(0, .int .i64 a0)] a := hf
 unfold digest_Pad.f at hp
 refine wq <| wr <| oa hf rfl rfl fun a hf => oN <| ct <| wq <| wr <| om hf rfl rfl fun a hf => oR hf (r_max hf rfl rfl) rfl fun a hf => oa hf rfl rfl fun a hf => oN <| ct <| wq <| wr <| om hf rfl rfl fun a hf => oR hf (r_add hf rfl rfl) rfl fun a hf => ?_
 refine oR hf (r_rem hf rfl rfl (by decide)) rfl fun a hf => oR hf (r_sub hf rfl rfl) rfl fun a hf => oa hf rfl rfl fun a hf => oN <| ct <| wq <| wr <| om hf rfl rfl fun a hf => oR hf (r_add hf rfl rfl) rfl fun a hf => om hf rfl rfl fun a hf => oR hf (r_add hf rfl rfl) rfl fun a hf => oR hf (r_add hf rfl rfl) rfl fun a hf => ?_
 obtain ⟨hg2, hp⟩ := gS hp
 obtain ⟨w, v3, cs6, hrun4, hw, hRR5⟩ := e_makeNC (P := P) (K := (ekI .u8)) hw hf (l := .tmp 14) (c := .tmp 17) el_60 ty_5 rfl (by decide) rfl rfl (x := 0) (fun _ => rfl) hg2
 refine o_eff hf (hrun4 ..) rfl fun a hf => oa hf rfl rfl fun a hf => oN <| ct <| wq <| wr <| om hf rfl rfl fun a hf => ?_
 obtain ⟨hg8, hp⟩ := gS hp
 refine oR hf (rI (K := (ekI .u8)) hf el_60 rfl rfl (rR (K := (ekI .u8)) hw (i := 0) rfl hRR5) hg8) rfl fun a hf => ?_
 obtain ⟨w, cs10, hrun9, hw, hRR11⟩ := e_storeH (P := P) (K := (ekI .u8)) hw hf (x := .tmp 20) (y := .const (Value.int .u8 128)) rfl rfl ty_5 0 rfl hRR5 hg8 rfl (vs := [Value.int .u8 128]) (oE rfl) rfl (oC rfl ones_nil) (Nat.le_of_eq (by rfl)) (x' := 128) (whole_store rfl)
 replace hw : Ok E I (.row v3 5 1 ((w64 (1 + (w64 (63 - ((w64 ((if 0 > a0 then 0 else a0) + 8)).tmod 64))))).toNat) cs10 :: F) w := hw
 refine o_effU (hrun9 ..) <| oN <| ct <| wq <| wr <| om hf rfl rfl fun a hf => oR hf (r_convI hf und_3 und_111 rfl) rfl fun a hf => oR hf (r_mul hf rfl rfl) rfl fun a hf => oa hf rfl rfl fun a hf => oN <| ct <| wq <| wq <| wr <| om hf rfl rfl fun a hf => oN ?_
 refine ct ?_
 obtain ⟨out68, hp, hq69⟩ := bS hp
 refine c_cutX (fun a w => ∃ y63 : List Int, ∃ yv64 : Value, ∃ m65 : Nat, ∃ cs66 : List Value, y63 = out68 ∧ Ok E I (.row yv64 5 1 m65 cs66 :: F) w ∧ Fr 39 ([(4, yv64)]) a ∧ RowR (ekI .u8) I cs66 y63) ?_ ?_
 ·refine wp_block <| c_loop <| c_fuel (digest_Pad.l0 a0) out68 (fun (y44, y49) a w => ∃ yv45 : Value, ∃ m46 : Nat, ∃ cs47 : List Value, Ok E I (.row yv45 5 1 m46 cs47 :: F) w ∧ Fr 39 ([(4, yv45), (5, .int .u64 (wu64 ((wu64 (if 0 > a0 then 0 else a0)) * 8))), (24, .int .i64 y49)]) a ∧ RowR (ekI .u8) I cs47 y44) (fun _ => rfl) ?_ BIG ((List.replicate (w64 (1 + (w64 (63 - ((w64 ((if 0 > a0 then 0 else a0) + 8)).tmod 64))))).toNat (0 : Int)).set (0 : Int).toNat 128, 0) _ _ ⟨v3, ((w64 (1 + (w64 (63 - ((w64 ((if 0 > a0 then 0 else a0) + 8)).tmod 64))))).toNat), cs10, hw, hf.to ⟨rfl, rfl, rfl, trivial⟩, hRR11⟩ hp
  intro k st a w hI hp ih
  obtain ⟨y44, y49⟩ := st
  obtain ⟨yv45, m46, cs47, hw, hf, hRR48⟩ := hI
  rw [digest_Pad.l0] at hp
  refine wq <| wr <| oR hf (iC hf rfl rfl rfl) rfl fun a hf => oN <| ct <| wq <| cC hf rfl (fun hb71 => ?_) (fun hb71 => ?_)
  ·replace hp := cond_t hb71 hp
   refine wp_skip <| ct <| wq <| wp_block <| wq <| wr <| om hf rfl rfl fun a hf => oa hf rfl rfl fun a hf => oN <| ct <| wr <| om hf rfl rfl fun a hf => om hf rfl rfl fun a hf => om hf rfl rfl fun a hf => oR hf (r_sub hf rfl rfl) rfl fun a hf => oR hf (r_mul hf rfl rfl) rfl fun a hf => ?_
   obtain ⟨hg72, hp⟩ := gS hp
   refine oR hf (r_shr hf rfl rfl hg72) rfl fun a hf => oR hf (r_convI hf und_111 und_5 rfl) rfl fun a hf => ?_
   obtain ⟨w, v73, hrun74, hw, hRR75⟩ := e_buildSlice (P := P) (K := (ekI .u8)) (m := 1) hw hf (parts := [(0, .tmp 33)]) el_60 ty_5 rfl rfl rfl (ccs := [[Value.int .u8 (wu8 (shr .u64 (wu64 ((wu64 (if 0 > a0 then 0 else a0)) * 8)) (w64 (8 * (w64 (7 - y49))))))]]) rfl (xs := [wu8 (shr .u64 (wu64 ((wu64 (if 0 > a0 then 0 else a0)) * 8)) (w64 (8 * (w64 (7 - y49)))))]) ⟨rfl, trivial⟩ rfl
   obtain ⟨cs76, hcs⟩ : ∃ cs, cs = ([[Value.int .u8 (wu8 (shr .u64 (wu64 ((wu64 (if 0 > a0 then 0 else a0)) * 8)) (w64 (8 * (w64 (7 - y49))))))]] : List (List Value)).flatten := ⟨_, rfl⟩
   rw [← hcs] at hw hRR75; clear hcs
   refine o_eff hf (hrun74 ..) rfl fun a hf => ?_
   obtain ⟨hg78, hp⟩ := gS hp
   obtain ⟨w, v79, m80, cs81, hrun83, hw, hRR82⟩ := e_append (P := P) (K := (ekI .u8)) (ty := 60) hw hf (s := .tmp 27) (x := .tmp 34) el_60 ty_5 rfl (by decide) 1 rfl rfl rfl hRR48 (ys := [wu8 (shr .u64 (wu64 ((wu64 (if 0 > a0 then 0 else a0)) * 8)) (w64 (8 * (w64 (7 - y49)))))]) (rR (K := (ekI .u8)) hw (i := 0) rfl hRR75) hg78
   replace hw : Ok E I (.row v73 5 1 1 cs76 :: .row v79 5 1 m80 cs81 :: F) w := hw
   refine o_eff hf (hrun83 ..) rfl fun a hf => oa hf rfl rfl fun a hf => oN <| c_blockN <| ct <| wr <| oR hf (r_add hf rfl rfl) rfl fun a hf => om hf rfl rfl fun a hf => oN <| ct ?_
   replace hw : Ok E I (.row v79 5 1 m80 cs81 :: F) w := hw.sub (sc (scc sr))
   exact ih (y44 ++ [wu8 (shr .u64 (wu64 ((wu64 (if 0 > a0 then 0 else a0)) * 8)) (w64 (8 * (w64 (7 - y49)))))], w64 (y49 + 1)) _ _ ⟨v79, m80, cs81, hw, hf.to ⟨rfl, rfl, rfl, trivial⟩, hRR82⟩ hp
  ·replace hp := cond_f hb71 hp
   refine wp_exit <| c_thenE <| c_thenE <| c_exit <| ct ?_
   have ho := oI hp
   subst ho
   exact ⟨y44, yv45, m46, cs47, rfl, hw, hf.to ⟨rfl, trivial⟩, hRR48⟩
 ·intro a w hM
  obtain ⟨y63, yv64, m65, cs66, rfl, hw, hf, hRR67⟩ := hM
  replace hp := hq69
  refine ct <| wq <| wr <| om hf rfl rfl fun a hf => oR hf (r_convB hf und_60 und_5 und_9 rfl (rR (K := (ekI .u8)) hw (i := 0) rfl hRR67)) rfl fun a hf => oa hf rfl rfl fun a hf => oN <| ct <| wp_ret ?_
  replace hw : Ok E I (F) w := hw.sub (sc sr)
  have ho := oI hp
  subst ho
  exact b_ret1 hf Go.Proofs.Tryd.results56 rfl ⟨_, rfl, ⟨rfl, hw⟩⟩

theorem math_bits_RotateLeft32_ok {E : World} {I : IH} {F : List Atom} {w : World} {a0 : Int} {a1 : Int} {res0 : Int} (hw : Ok E I (F) w) (hG : Gl I) (hp : math_bits_RotateLeft32.f a0 a1 = some res0) :
  Calls P 99 ⟨[Value.int .u32 a0, Value.int .i64 a1]⟩ w fun e w' => ∃ v, e = .returned v ∧ v = Value.int .u32 res0 ∧ Ok E I (F) w' := by
 refine c_enter Go.Proofs.Tryd.func99 rfl Go.Proofs.Tryd.ntmps99 rfl fun a hf => ?_
 replace hf : Fr 17 [(0, .int .u32 a0), (1, .int .i64 a1)] a := hf
 unfold math_bits_RotateLeft32.f at hp
 refine wq <| wr <| oa hf rfl rfl fun a hf => oN <| ct <| wq <| wr <| om hf rfl rfl fun a hf => oR hf (r_convI hf und_3 und_56 rfl) rfl fun a hf => oR hf (r_and hf rfl rfl) rfl fun a hf => oa hf rfl rfl fun a hf => oN <| ct <| wq <| wr <| om hf rfl rfl fun a hf => ?_
 refine om hf rfl rfl fun a hf => ?_
 obtain ⟨hg1, hp⟩ := gS hp
 refine oR hf (r_shl hf rfl rfl hg1) rfl fun a hf => om hf rfl rfl fun a hf => om hf rfl rfl fun a hf => oR hf (r_sub hf rfl rfl) rfl fun a hf => ?_
 obtain ⟨hg2, hp⟩ := gS hp
 refine oR hf (r_shr hf rfl rfl hg2) rfl fun a hf => oR hf (r_or hf rfl rfl) rfl fun a hf => oa hf rfl rfl fun a hf => oN <| ct <| wp_ret ?_
 have ho := oI hp
 subst ho
 exact b_ret1 hf Go.Proofs.Tryd.results99 rfl ⟨_, rfl, ⟨rfl, hw⟩⟩

theorem digest_turned_ok {E : World} {I : IH} {F : List Atom} {w : World} {a0 : Int} {a1 : Int} {res0 : Int} (hw : Ok E I (F) w) (hG : Gl I) (hp : digest_turned.f a0 a1 = some res0) :
  Calls P 79 ⟨[Value.int .u32 a0, Value.int .i64 a1]⟩ w fun e w' => ∃ v, e = .returned v ∧ v = Value.int .u32 res0 ∧ Ok E I (F) w' := by
 refine c_enter Go.Proofs.Tryd.func79 rfl Go.Proofs.Tryd.ntmps79 rfl fun a hf => ?_
 replace hf : Fr 9 [(0, .int .u32 a0), (1, .int .i64 a1)] a := hf
 unfold digest_turned.f at hp
 refine wq <| wr <| oa hf rfl rfl fun a hf => oN <| ct <| wq <| wr <| om hf rfl rfl fun a hf => om hf rfl rfl fun a hf => oR hf (r_neg hf rfl) rfl fun a hf => ?_
 obtain ⟨y3, hy4, hp⟩ := bS hp
 have hc6 := math_bits_RotateLeft32_ok hw hG hy4
 refine o_call hf cb_99 rfl rfl hc6 (fun v8 w a hK7 hf => ?_)
 obtain ⟨rfl, hw⟩ := hK7
 refine oa hf rfl rfl fun a hf => oN <| ct <| wp_ret ?_
 have ho := oI hp
 subst ho
 exact b_ret1 hf Go.Proofs.Tryd.results79 rfl ⟨_, rfl, ⟨rfl, hw⟩⟩

theorem digest_schedule_ok {E : World} {I : IH} {F : List Atom} {w : World} {a0 : Vector Int 64} {res0 : Vector Int 64} (hw : Ok E I (F) w) (hG : Gl I) (hp : digest_schedule.f a0 = some res0) :
  Calls P 78 ⟨[Value.agg ⟨arrC .u8 a0⟩]⟩ w fun e w' => ∃ v, e = .returned v ∧ v = Value.agg ⟨arrC .u32 res0⟩ ∧ Ok E I (F) w' := by
 refine c_enter Go.Proofs.Tryd.func78 rfl Go.Proofs.Tryd.ntmps78 rfl fun a hf => ?_
 replace hf : Fr 67 [(0, Value.agg ⟨arrC .u8 a0⟩)] a := hf
 unfold digest_schedule.f at hp
 refine wq <| wr ?_
 obtain ⟨b1, w, hrun2, hw⟩ := e_box (P := P) hw hf (e := 97) (x := .tmp 0) rfl (cs := (arrC .u8 a0)) rfl
 refine o_eff hf (hrun2 ..) rfl fun a hf => ?_
 obtain ⟨b4, w, hrun5, hw⟩ := e_alloc (P := P) (a := a) hw ty_83
 replace hw : Ok E I (.blk b4 (.cells ⟨arrC .u32 (Vector.replicate 64 0 : Vector Int 64)⟩ 83 (0, 0)) :: .blk b1 (.cells ⟨arrC .u8 a0⟩ 97 (0, 0)) :: F) w := hw
 refine o_eff hf (hrun5 ..) rfl fun a hf => oN <| ct <| wq <| wr ?_
 obtain ⟨b7, w, hrun8, hw⟩ := e_alloc (P := P) (a := a) hw ty_83
 replace hw : Ok E I (.blk b7 (.cells ⟨arrC .u32 (Vector.replicate 64 0 : Vector Int 64)⟩ 83 (0, 0)) :: .blk b4 (.cells ⟨arrC .u32 (Vector.replicate 64 0 : Vector Int 64)⟩ 83 (0, 0)) :: .blk b1 (.cells ⟨arrC .u8 a0⟩ 97 (0, 0)) :: F) w := hw
 refine o_eff hf (hrun8 ..) rfl fun a hf => oN <| ct <| wq <| wq <| wr <| om hf rfl rfl fun a hf => oN <| ct ?_
 obtain ⟨out33, hp, hq34⟩ := bS hp
 refine c_cutX (fun a w => ∃ y32 : Vector Int 64, y32 = out33 ∧ Ok E I (.blk b7 (.cells ⟨arrC .u32 y32⟩ 83 (0, 0)) :: .blk b4 (.cells ⟨arrC .u32 (Vector.replicate 64 0 : Vector Int 64)⟩ 83 (0, 0)) :: .blk b1 (.cells ⟨arrC .u8 a0⟩ 97 (0, 0)) :: F) w ∧ Fr 67 ([(2, .pointer (some ⟨b4, 0, none⟩)), (3, .pointer (some ⟨b7, 0, none⟩))]) a) ?_ ?_
 ·refine wp_block <| c_loop <| c_fuel (digest_schedule.l0 a0) out33 (fun (y24, y25) a w => Ok E I (.blk b7 (.cells ⟨arrC .u32 y24⟩ 83 (0, 0)) :: .blk b4 (.cells ⟨arrC .u32 (Vector.replicate 64 0 : Vector Int 64)⟩ 83 (0, 0)) :: .blk b1 (.cells ⟨arrC .u8 a0⟩ 97 (0, 0)) :: F) w ∧ Fr 67 ([(1, .pointer (some ⟨b1, 0, none⟩)), (2, .pointer (some ⟨b4, 0, none⟩)), (3, .pointer (some ⟨b7, 0, none⟩)), (8, .int .i64 y25)]) a) (fun _ => rfl) ?_ BIG ((Vector.replicate 64 0 : Vector Int 64), 0) _ _ ⟨hw, hf.to ⟨rfl, rfl, rfl, rfl, trivial⟩⟩ hp
  intro k st a w hI hp ih
  obtain ⟨y24, y25⟩ := st
  obtain ⟨hw, hf⟩ := hI
  rw [digest_schedule.l0] at hp
  refine wq <| wr <| oR hf (iC hf rfl rfl rfl) rfl fun a hf => oN <| ct <| wq <| cC hf rfl (fun hb36 => ?_) (fun hb36 => ?_)
  ·replace hp := cond_t hb36 hp
   refine wp_skip <| ct <| wq <| wp_block <| wq <| wr <| om hf rfl rfl fun a hf => oa hf rfl rfl fun a hf => oN <| ct <| c_drawn mix [13] (.rd 0 (.rd 1 (.rd 2 (.rd 3 (.rd 4 (.rd 5 (.rd 6 (.rd 7 (.rd 8 (.rd 9 (.rd 10 (.rd 11 (.rd 12 (.ef 13 .done)))))))))))))) (by kernel_rfl) hw (fun w => Ok E I (.blk b7 (.cells ⟨arrC .u32 y24⟩ 83 (0, 0)) :: .blk b4 (.cells ⟨arrC .u32 (Vector.replicate 64 0 : Vector Int 64)⟩ 83 (0, 0)) :: .blk b1 (.cells ⟨arrC .u8 a0⟩ 97 (0, 0)) :: F) w) (fun w hw => ⟨hw.sub (scc (scc (scc sr))), ?_⟩)
   refine tm rfl hf rfl rfl fun a hf => tR rfl hf (fun w hw => r_quo hf rfl rfl (by decide)) rfl fun a hf => tm rfl hf rfl rfl fun a hf => tR rfl hf (fun w hw => r_quo hf rfl rfl (by decide)) rfl fun a hf => ?_
   obtain ⟨hg38, hp⟩ := gS hp
   refine tR rfl hf (fun w hw => r_indexAddrA hf el_83 rfl rfl hg38) rfl fun a hf => tR rfl hf (fun w hw => rL hw hf rfl ty_80 0 rfl (arr_at (k := .u32) (v := y24) rfl hg38)) rfl fun a hf => tR rfl hf (fun w hw => r_shl hf rfl rfl (by decide)) rfl fun a hf => tm rfl hf rfl rfl fun a hf => ?_
   obtain ⟨hg39, hp⟩ := gS hp
   refine tR rfl hf (fun w hw => r_indexAddrA hf el_97 rfl rfl hg39) rfl fun a hf => tR rfl hf (fun w hw => rL hw hf rfl ty_5 2 rfl (arr_at (k := .u8) (v := a0) rfl hg39)) rfl fun a hf => tR rfl hf (fun w hw => r_convI hf und_5 und_80 rfl) rfl fun a hf => tR rfl hf (fun w hw => r_or hf rfl rfl) rfl fun a hf => ?_
   obtain ⟨hg40, hp⟩ := gS hp
   refine tR rfl hf (fun w hw => r_indexAddrA hf el_83 rfl rfl hg40) rfl fun a hf => t_ef rfl ?_
   obtain ⟨w, hrun41, hw⟩ := e_store (P := P) hw hf (x := .tmp 23) (y := .tmp 22) rfl rfl ty_80 0 rfl (vs := [Value.int .u32 (bor .u32 (shl .u32 (vg y24 (w64 (y25.tdiv 4))) 8) (wu32 (vg a0 y25)))]) rfl rfl (oC rfl ones_nil) (by first | (simp [arrC_len] <;> omega) | (have h := hg40; try (simp only [w64, wu8, wu16, wu32, wu64] at h); simp only [List.length_cons, arrC_len]; omega)) (cs' := (arrC .u32 (vset y24 (w64 (y25.tdiv 4)) (bor .u32 (shl .u32 (vg y24 (w64 (y25.tdiv 4))) 8) (wu32 (vg a0 y25)))))) (arr_store (pre := ([] : List Value)) (v := y24) rfl rfl rfl hg40)
   replace hw : Ok E I (.blk b7 (.cells ⟨arrC .u32 (vset y24 (w64 (y25.tdiv 4)) (bor .u32 (shl .u32 (vg y24 (w64 (y25.tdiv 4))) 8) (wu32 (vg a0 y25))))⟩ 83 (0, 0)) :: .blk b4 (.cells ⟨arrC .u32 (Vector.replicate 64 0 : Vector Int 64)⟩ 83 (0, 0)) :: .blk b1 (.cells ⟨arrC .u8 a0⟩ 97 (0, 0)) :: F) w := hw
   refine t_effU (hrun41 ..) ⟨.inl rfl, ?_⟩
   refine t_done <| c_blockN <| ct <| wr <| oR hf (r_add hf rfl rfl) rfl fun a hf => om hf rfl rfl fun a hf => oN <| ct ?_
   exact ih (vset y24 (w64 (y25.tdiv 4)) (bor .u32 (shl .u32 (vg y24 (w64 (y25.tdiv 4))) 8) (wu32 (vg a0 y25))), w64 (y25 + 1)) _ _ ⟨hw, hf.to ⟨rfl, rfl, rfl, rfl, trivial⟩⟩ hp
  ·replace hp := cond_f hb36 hp
   refine wp_exit <| c_thenE <| c_thenE <| c_exit <| ct ?_
   have ho := oI hp
   subst ho
   exact ⟨y24, rfl, hw, hf.to ⟨rfl, rfl, trivial⟩⟩
 ·intro a w hM
  obtain ⟨y32, rfl, hw, hf⟩ := hM
  replace hp := hq34
  refine ct <| wq <| wq <| wr <| oa hf rfl rfl fun a hf => oN <| ct ?_
  obtain ⟨out106, hp, hq107⟩ := bS hp
  refine c_cutX (fun a w => ∃ y105 : Vector Int 64, y105 = out106 ∧ Ok E I (.blk b7 (.cells ⟨arrC .u32 y105⟩ 83 (0, 0)) :: .blk b4 (.cells ⟨arrC .u32 (Vector.replicate 64 0 : Vector Int 64)⟩ 83 (0, 0)) :: .blk b1 (.cells ⟨arrC .u8 a0⟩ 97 (0, 0)) :: F) w ∧ Fr 67 ([(2, .pointer (some ⟨b4, 0, none⟩)), (3, .pointer (some ⟨b7, 0, none⟩))]) a) ?_ ?_
  ·refine wp_block <| c_loop <| c_fuel (digest_schedule.l1) out106 (fun (y70, y71) a w => Ok E I (.blk b7 (.cells ⟨arrC .u32 y70⟩ 83 (0, 0)) :: .blk b4 (.cells ⟨arrC .u32 (Vector.replicate 64 0 : Vector Int 64)⟩ 83 (0, 0)) :: .blk b1 (.cells ⟨arrC .u8 a0⟩ 97 (0, 0)) :: F) w ∧ Fr 67 ([(2, .pointer (some ⟨b4, 0, none⟩)), (3, .pointer (some ⟨b7, 0, none⟩)), (5, .int .i64 y71)]) a) (fun _ => rfl) ?_ BIG (y32, 16) _ _ ⟨hw, hf.to ⟨rfl, rfl, rfl, trivial⟩⟩ hp
   intro k st a w hI hp ih
   obtain ⟨y70, y71⟩ := st
   obtain ⟨hw, hf⟩ := hI
   rw [digest_schedule.l1] at hp
   refine wq <| wq <| wr <| om hf rfl rfl fun a hf => oR hf (iC hf rfl rfl rfl) rfl fun a hf => oN <| ct <| cC hf rfl (fun hb109 => ?_) (fun hb109 => ?_)
   ·replace hp := cond_t hb109 hp
    refine wp_skip <| ct <| wq <| wp_block <| wq <| c_drawn mix [] (.rd 0 (.rd 1 (.rd 2 (.rd 3 (.rd 4 (.rd 5 (.rd 6 (.rd 7 (.rd 8 (.rd 9 .done)))))))))) (by kernel_rfl) hw (fun w => Ok E I (.blk b7 (.cells ⟨arrC .u32 y70⟩ 83 (0, 0)) :: .blk b4 (.cells ⟨arrC .u32 (Vector.replicate 64 0 : Vector Int 64)⟩ 83 (0, 0)) :: .blk b1 (.cells ⟨arrC .u8 a0⟩ 97 (0, 0)) :: F) w) (fun w hw => ⟨hw.sub (scc (scc (scc sr))), ?_⟩)
    refine tm rfl hf rfl rfl fun a hf => tR rfl hf (fun w hw => r_sub hf rfl rfl) rfl fun a hf => ?_
    obtain ⟨hg111, hp⟩ := gS hp
    refine tR rfl hf (fun w hw => r_indexAddrA hf el_83 rfl rfl hg111) rfl fun a hf => tR rfl hf (fun w hw => rL hw hf rfl ty_80 0 rfl (arr_at (k := .u32) (v := y70) rfl hg111)) rfl fun a hf => tm rfl hf rfl rfl fun a hf => tR rfl hf (fun w hw => r_sub hf rfl rfl) rfl fun a hf => ?_
    obtain ⟨hg112, hp⟩ := gS hp
    refine tR rfl hf (fun w hw => r_indexAddrA hf el_83 rfl rfl hg112) rfl fun a hf => tR rfl hf (fun w hw => rL hw hf rfl ty_80 0 rfl (arr_at (k := .u32) (v := y70) rfl hg112)) rfl fun a hf => tR rfl hf (fun w hw => r_assign hf rfl) rfl fun a hf => tR rfl hf (fun w hw => r_assign hf rfl) rfl fun a hf => t_done <| ct <| c_drawn mix [29] (.rd 0 (.rd 1 (.rd 2 (.rd 3 (.rd 4 (.rd 5 (.rd 6 (.rd 7 (.rd 8 (.rd 9 (.rd 10 (.rd 12 (.rd 15 (.rd 16 (.rd 19 (.rd 21 (.rd 24 (.rd 25 (.ef 11 (.ef 13 (.rd 14 (.rd 17 (.rd 18 (.ef 20 (.ef 22 (.rd 23 (.rd 26 (.rd 27 (.rd 28 (.ef 29 .done)))))))))))))))))))))))))))))) (by kernel_rfl) hw (fun w => Ok E I (.blk b7 (.cells ⟨arrC .u32 y70⟩ 83 (0, 0)) :: .blk b4 (.cells ⟨arrC .u32 (Vector.replicate 64 0 : Vector Int 64)⟩ 83 (0, 0)) :: .blk b1 (.cells ⟨arrC .u8 a0⟩ 97 (0, 0)) :: F) w) (fun w hw => ⟨hw.sub (scc (scc (scc sr))), ?_⟩)
    refine tm rfl hf rfl rfl fun a hf => tm rfl hf rfl rfl fun a hf => tR rfl hf (fun w hw => r_sub hf rfl rfl) rfl fun a hf => ?_
    obtain ⟨hg114, hp⟩ := gS hp
    refine tR rfl hf (fun w hw => r_indexAddrA hf el_83 rfl rfl hg114) rfl fun a hf => tR rfl hf (fun w hw => rL hw hf rfl ty_80 0 rfl (arr_at (k := .u32) (v := y70) rfl hg114)) rfl fun a hf => tm rfl hf rfl rfl fun a hf => tR rfl hf (fun w hw => r_sub hf rfl rfl) rfl fun a hf => ?_
    obtain ⟨hg115, hp⟩ := gS hp
    refine tR rfl hf (fun w hw => r_indexAddrA hf el_83 rfl rfl hg115) rfl fun a hf => tR rfl hf (fun w hw => rL hw hf rfl ty_80 0 rfl (arr_at (k := .u32) (v := y70) rfl hg115)) rfl fun a hf => tR rfl hf (fun w hw => r_add hf rfl rfl) rfl fun a hf => tm rfl hf rfl rfl fun a hf => tm rfl hf rfl rfl fun a hf => tm rfl hf rfl rfl fun a hf => tR rfl hf (fun w hw => r_shr hf rfl rfl (by decide)) rfl fun a hf => tm rfl hf rfl rfl fun a hf => tm rfl hf rfl rfl fun a hf => tm rfl hf rfl rfl fun a hf => tR rfl hf (fun w hw => r_shr hf rfl rfl (by decide)) rfl fun a hf => t_ef rfl ?_
    obtain ⟨y116, hy117, hp⟩ := bS hp
    have hc119 := digest_turned_ok hw hG hy117
    refine t_call hf cb_79 rfl rfl hc119 (fun v121 w a hK120 hf => ?_)
    obtain ⟨rfl, hw⟩ := hK120
    refine ⟨.inr (hw.back (IH.le_refl _) (scc (scc (scc sr)))), ?_⟩
    refine t_ef rfl ?_
    obtain ⟨y122, hy123, hp⟩ := bS hp
    have hc125 := digest_turned_ok hw hG hy123
    refine t_call hf cb_79 rfl rfl hc125 (fun v127 w a hK126 hf => ?_)
    obtain ⟨rfl, hw⟩ := hK126
    refine ⟨.inr (hw.back (IH.le_refl _) (scc (scc (scc sr)))), ?_⟩
    refine tR rfl hf (fun w hw => r_xor hf rfl rfl) rfl fun a hf => tR rfl hf (fun w hw => r_xor hf rfl rfl) rfl fun a hf => tR rfl hf (fun w hw => r_add hf rfl rfl) rfl fun a hf => t_ef rfl ?_
    obtain ⟨y128, hy129, hp⟩ := bS hp
    have hc131 := digest_turned_ok hw hG hy129
    refine t_call hf cb_79 rfl rfl hc131 (fun v133 w a hK132 hf => ?_)
    obtain ⟨rfl, hw⟩ := hK132
    refine ⟨.inr (hw.back (IH.le_refl _) (scc (scc (scc sr)))), ?_⟩
    refine t_ef rfl ?_
    obtain ⟨y134, hy135, hp⟩ := bS hp
    have hc137 := digest_turned_ok hw hG hy135
    refine t_call hf cb_79 rfl rfl hc137 (fun v139 w a hK138 hf => ?_)
    obtain ⟨rfl, hw⟩ := hK138
    refine ⟨.inr (hw.back (IH.le_refl _) (scc (scc (scc sr)))), ?_⟩
    refine tR rfl hf (fun w hw => r_xor hf rfl rfl) rfl fun a hf => tR rfl hf (fun w hw => r_xor hf rfl rfl) rfl fun a hf => tR rfl hf (fun w hw => r_add hf rfl rfl) rfl fun a hf => ?_
    obtain ⟨hg140, hp⟩ := gS hp
    refine tR rfl hf (fun w hw => r_indexAddrA hf el_83 rfl rfl hg140) rfl fun a hf => t_ef rfl ?_
    obtain ⟨w, hrun141, hw⟩ := e_store (P := P) hw hf (x := .tmp 65) (y := .tmp 64) rfl rfl ty_80 0 rfl (vs := [Value.int .u32 (wu32 ((wu32 ((wu32 ((vg y70 (w64 (y71 - 16))) + (vg y70 (w64 (y71 - 7))))) + (bxor .u32 (bxor .u32 y116 y122) (shr .u32 (vg y70 (w64 (y71 - 15))) 3)))) + (bxor .u32 (bxor .u32 y128 y134) (shr .u32 (vg y70 (w64 (y71 - 2))) 10))))]) rfl rfl (oC rfl ones_nil) (by first | (simp [arrC_len] <;> omega) | (have h := hg140; try (simp only [w64, wu8, wu16, wu32, wu64] at h); simp only [List.length_cons, arrC_len]; omega)) (cs' := (arrC .u32 (vset y70 y71 (wu32 ((wu32 ((wu32 ((vg y70 (w64 (y71 - 16))) + (vg y70 (w64 (y71 - 7))))) + (bxor .u32 (bxor .u32 y116 y122) (shr .u32 (vg y70 (w64 (y71 - 15))) 3)))) + (bxor .u32 (bxor .u32 y128 y134) (shr .u32 (vg y70 (w64 (y71 - 2))) 10))))))) (arr_store (pre := ([] : List Value)) (v := y70) rfl rfl rfl hg140)
    replace hw : Ok E I (.blk b7 (.cells ⟨arrC .u32 (vset y70 y71 (wu32 ((wu32 ((wu32 ((vg y70 (w64 (y71 - 16))) + (vg y70 (w64 (y71 - 7))))) + (bxor .u32 (bxor .u32 y116 y122) (shr .u32 (vg y70 (w64 (y71 - 15))) 3)))) + (bxor .u32 (bxor .u32 y128 y134) (shr .u32 (vg y70 (w64 (y71 - 2))) 10)))))⟩ 83 (0, 0)) :: .blk b4 (.cells ⟨arrC .u32 (Vector.replicate 64 0 : Vector Int 64)⟩ 83 (0, 0)) :: .blk b1 (.cells ⟨arrC .u8 a0⟩ 97 (0, 0)) :: F) w := hw
    refine t_effU (hrun141 ..) ⟨.inl rfl, ?_⟩
    refine t_done <| c_blockN <| ct <| wr <| om hf rfl rfl fun a hf => oR hf (r_add hf rfl rfl) rfl fun a hf => oa hf rfl rfl fun a hf => oN <| ct ?_
    exact ih (vset y70 y71 (wu32 ((wu32 ((wu32 ((vg y70 (w64 (y71 - 16))) + (vg y70 (w64 (y71 - 7))))) + (bxor .u32 (bxor .u32 y116 y122) (shr .u32 (vg y70 (w64 (y71 - 15))) 3)))) + (bxor .u32 (bxor .u32 y128 y134) (shr .u32 (vg y70 (w64 (y71 - 2))) 10)))), w64 (y71 + 1)) _ _ ⟨hw, hf.to ⟨rfl, rfl, rfl, trivial⟩⟩ hp
   ·replace hp := cond_f hb109 hp
    refine wp_exit <| c_thenE <| c_thenE <| c_exit <| ct ?_
    have ho := oI hp
    subst ho
    exact ⟨y70, rfl, hw, hf.to ⟨rfl, rfl, trivial⟩⟩
  ·intro a w hM
   obtain ⟨y105, rfl, hw, hf⟩ := hM
   replace hp := hq107
   refine ct <| wq <| wr <| oR hf (r_loadA hw hf rfl ty_83 0 rfl (vs := (arrC .u32 y105)) (take_all (by simp [arrC_len])) (by simp [arrC_len])) rfl fun a hf => ?_
   obtain ⟨w, hrun143, hw⟩ := e_store (P := P) hw hf (x := .tmp 2) (y := .tmp 66) rfl rfl ty_83 1 rfl (vs := (arrC .u32 y105)) rfl (by simp [arrC_len]) (arrC_one _ _) (by simp [arrC_len]) (cs' := (arrC .u32 y105)) (by simp [arrC_len])
   replace hw : Ok E I (.blk b7 (.cells ⟨arrC .u32 y105⟩ 83 (0, 0)) :: .blk b4 (.cells ⟨arrC .u32 y105⟩ 83 (0, 0)) :: .blk b1 (.cells ⟨arrC .u8 a0⟩ 97 (0, 0)) :: F) w := hw
   refine o_effU (hrun143 ..) <| oN <| ct <| wp_ret ?_
   replace hw : Ok E I (.blk b4 (.cells ⟨arrC .u32 y105⟩ 83 (0, 0)) :: F) w := hw.sub (sc (scc (sc sr)))
   have ho := oI hp
   subst ho
   exact b_retC hw hf Go.Proofs.Tryd.results78 ty_83 rfl 0 rfl (vs := (arrC .u32 y105)) (take_all (by simp [arrC_len])) (by simp [arrC_len]) ⟨_, rfl, ⟨rfl, hw.tail⟩⟩
end Go.Lf
