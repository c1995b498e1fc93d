import Derived.Test.YtckhmgglgbnaaaaZD
import Derived.Test.YtckhmgglgbnaaaaZF
import Derived.Test.YtckhmgglgbnaaaaUB
import Derived.Test.YtckhmgglgbnaaaaN
import Derived.Test.YtckhmgglgbnaaaaBL
import Derived.Test.YtckhmgglgbnaaaaZK1
import Derived.Test.YtckhmgglgbnaaaaZK5
import Derived.Test.YtckhmgglgbnaaaaZK12
import Derived.Test.YtckhmgglgbnaaaaZK14
set_option linter.unusedVariables false
set_option linter.unusedSimpArgs false
set_option maxHeartbeats 1000000
set_option maxRecDepth 20000
namespace Go.Lf
open Go Go.Proofs.Try
theorem law20_wakes_ok {E : World} {I : IH} {F : List Atom} {w : World} {res0 : Bool} (hw : Ok E I (F) w) (hp : law20_wakes.f = some res0) :
  Calls P 26 ⟨[]⟩ w fun e w' => ∃ v, e = .returned v ∧ v = Value.bool res0 ∧ Ok E I (F) w' := by
 refine c_enter func26 rfl ntmps26 rfl fun a hf => ?_
 replace hf : Fr 115 [] a := hf
 unfold law20_wakes.f at hp
 refine wq <| wr <| oa hf rfl rfl fun a hf => oN <| ct <| wq <| wr <| oR hf (r_build hf bd_55 (vs := [.string (⟨#[97]⟩ : ByteArray), .string (⟨#[49]⟩ : ByteArray)]) rfl ⟨rfl, rfl, trivial⟩ (by decide) (out := [.string (⟨#[97]⟩ : ByteArray), .string (⟨#[49]⟩ : ByteArray)]) rfl) rfl fun a hf => oR hf (r_build hf bd_55 (vs := [.string (⟨#[98]⟩ : ByteArray)]) rfl ⟨rfl, trivial⟩ (by decide) (out := [.string (⟨#[98]⟩ : ByteArray), .string e0]) rfl) rfl fun a hf => ?_
 obtain ⟨w, v1, hrun2, hw, hRR3⟩ := e_buildSlice (P := P) (K := ek_Pair) (m := 2) hw hf (parts := [(0, .tmp 13), (1, .tmp 14)]) el_43 ty_55 rfl rfl rfl (ccs := [[Value.string (⟨#[97]⟩ : ByteArray), Value.string (⟨#[49]⟩ : ByteArray)], [Value.string (⟨#[98]⟩ : ByteArray), Value.string e0]]) rfl (xs := [(⟨(⟨#[97]⟩ : ByteArray), (⟨#[49]⟩ : ByteArray)⟩ : Pair), (⟨(⟨#[98]⟩ : ByteArray), e0⟩ : Pair)]) ⟨rfl, rfl, trivial⟩ rfl
 obtain ⟨cs4, hcs⟩ : ∃ cs, cs = ([[Value.string (⟨#[97]⟩ : ByteArray), Value.string (⟨#[49]⟩ : ByteArray)], [Value.string (⟨#[98]⟩ : ByteArray), Value.string e0]] : List (List Value)).flatten := ⟨_, rfl⟩
 rw [← hcs] at hw hRR3; clear hcs
 refine o_eff hf (hrun2 ..) rfl fun a hf => ?_
 have hw : Ok E I (.row v1 55 2 2 cs4 :: F) w := hw.front (i := 0) rfl
 obtain ⟨I1103, hle1104, hw, hR1105⟩ := row_freeze (K := ek_Pair) hw hRR3
 obtain ⟨y1106, hy1107, hp⟩ := bS hp
 have hc1109 := ref10_Build_ok hw hR1105 hy1107
 refine o_call hf cb_24 rfl rfl hc1109 (fun v1115 w a hK1110 hf => ?_)
 obtain ⟨I2_1110, rvv1111, rvv1113, rfl, hle1116, hw, hR1112, hR1114⟩ := hK1110
 replace hR1105 := hR1105.mono hle1116
 refine oR hf (r_field hf rfl fd_47_0 ty_23 rfl) rfl fun a hf => oa hf rfl rfl fun a hf => oN <| ct <| wq <| wr <| om hf rfl rfl fun a hf => ?_
 obtain ⟨y10399, hy10400, hp⟩ := bS hp
 have hc10402 := ref19_Of_ok hw hR1112 hy10400
 refine o_call hf cb_15 rfl rfl hc10402 (fun v10406 w a hK10403 hf => ?_)
 obtain ⟨I2_10403, rvv10404, rfl, hle10407, hw, hR10405⟩ := hK10403
 replace hR1105 := hR1105.mono hle10407
 replace hR1112 := hR1112.mono hle10407
 replace hR1114 := hR1114.mono hle10407
 refine oR hf (r_field hf rfl fd_33_0 ty_29 rfl) rfl fun a hf => oa hf rfl rfl fun a hf => oN <| ct <| wq <| wr <| om hf rfl rfl fun a hf => om hf rfl rfl fun a hf => ?_
 obtain ⟨hg10408, hp⟩ := gS hp
 refine oR hf (rI (K := ek_Plan) hf el_29 rfl rfl (hR10405.rd hw) hg10408) rfl fun a hf => ?_
 obtain ⟨_, ⟨vv10409, vv10411, rfl, hR10410, hR10412⟩, hrun10414⟩ := rs_loadHA (P := P) ty_26 hR10405 hg10408 rfl (fun cs h => Plan_all h)
 refine oR hf (hrun10414 _ _ _ _ _ _ _ _ _ _ _ _ hw hf rfl) rfl fun a hf => ?_
 obtain ⟨w, v10415, hrun10416, hw, hRR10417⟩ := e_buildSlice (P := P) (K := (ekI .i64)) (m := 1) hw hf (parts := [(0, .const (Value.int .i64 7))]) el_24 ty_3 rfl rfl rfl (ccs := [[Value.int .i64 7]]) rfl (xs := [7]) ⟨rfl, trivial⟩ rfl
 obtain ⟨cs10418, hcs⟩ : ∃ cs, cs = ([[Value.int .i64 7]] : List (List Value)).flatten := ⟨_, rfl⟩
 rw [← hcs] at hw hRR10417; clear hcs
 refine o_eff hf (hrun10416 ..) rfl fun a hf => ?_
 have hw : Ok E I2_10403 (.row v10415 3 1 1 cs10418 :: F) w := hw.front (i := 0) rfl
 obtain ⟨I52, hle53, hw, hR54⟩ := row_freeze (K := (ekI .i64)) hw hRR10417
 replace hR1105 := hR1105.mono hle53
 replace hR1112 := hR1112.mono hle53
 replace hR1114 := hR1114.mono hle53
 replace hR10405 := hR10405.mono hle53
 replace hR10410 := hR10410.mono hle53
 replace hR10412 := hR10412.mono hle53
 obtain ⟨y58, hy57, hp⟩ := bS hp
 obtain ⟨y55, y56⟩ := y58
 have hc59 := slot_Encode_ok hw hR1112 hR10410 hR10412 hR54 hy57
 refine o_call hf cb_27 rfl rfl hc59 (fun v61 w a hK60 hf => ?_)
 obtain ⟨rfl, hw⟩ := hK60
 refine om hf rfl rfl fun a hf => oR hf (rE hf rfl rfl) rfl fun a hf => oR hf (rE hf rfl rfl) rfl fun a hf => oa hf rfl rfl fun a hf => oa hf rfl rfl fun a hf => oN <| ct <| wq <| wr <| om hf rfl rfl fun a hf => om hf rfl rfl fun a hf => ?_
 obtain ⟨hg62, hp⟩ := gS hp
 refine oR hf (rI (K := ek_Plan) hf el_29 rfl rfl (hR10405.rd hw) hg62) rfl fun a hf => ?_
 obtain ⟨_, ⟨vv63, vv65, rfl, hR64, hR66⟩, hrun68⟩ := rs_loadHA (P := P) ty_26 hR10405 hg62 rfl (fun cs h => Plan_all h)
 refine oR hf (hrun68 _ _ _ _ _ _ _ _ _ _ _ _ hw hf rfl) rfl fun a hf => ?_
 obtain ⟨w, v69, hrun70, hw, hRR71⟩ := e_buildSlice (P := P) (K := (ekI .i64)) (m := 1) hw hf (parts := [(0, .const (Value.int .i64 1))]) el_24 ty_3 rfl rfl rfl (ccs := [[Value.int .i64 1]]) rfl (xs := [1]) ⟨rfl, trivial⟩ rfl
 obtain ⟨cs72, hcs⟩ : ∃ cs, cs = ([[Value.int .i64 1]] : List (List Value)).flatten := ⟨_, rfl⟩
 rw [← hcs] at hw hRR71; clear hcs
 refine o_eff hf (hrun70 ..) rfl fun a hf => ?_
 have hw : Ok E I52 (.row v69 3 1 1 cs72 :: F) w := hw.front (i := 0) rfl
 obtain ⟨I74, hle75, hw, hR76⟩ := row_freeze (K := (ekI .i64)) hw hRR71
 replace hR1105 := hR1105.mono hle75
 replace hR1112 := hR1112.mono hle75
 replace hR1114 := hR1114.mono hle75
 replace hR10405 := hR10405.mono hle75
 replace hR10410 := hR10410.mono hle75
 replace hR10412 := hR10412.mono hle75
 replace hR54 := hR54.mono hle75
 replace hR64 := hR64.mono hle75
 replace hR66 := hR66.mono hle75
 obtain ⟨y80, hy79, hp⟩ := bS hp
 obtain ⟨y77, y78⟩ := y80
 have hc81 := slot_Encode_ok hw hR1112 hR64 hR66 hR76 hy79
 refine o_call hf cb_27 rfl rfl hc81 (fun v83 w a hK82 hf => ?_)
 obtain ⟨rfl, hw⟩ := hK82
 refine om hf rfl rfl fun a hf => oR hf (rE hf rfl rfl) rfl fun a hf => oR hf (rE hf rfl rfl) rfl fun a hf => oa hf rfl rfl fun a hf => oa hf rfl rfl fun a hf => oN <| ct <| wq <| wr <| om hf rfl rfl fun a hf => ?_
 obtain ⟨y94, hy93, hp⟩ := bS hp
 obtain ⟨y91, y92⟩ := y94
 have hc95 := slot_Decode_ok hw hy93
 refine o_call hf cb_29 rfl rfl hc95 (fun v99 w a hK96 hf => ?_)
 obtain ⟨I2_96, rvv97, rfl, hle100, hw, hR98⟩ := hK96
 replace hR1105 := hR1105.mono hle100
 replace hR1112 := hR1112.mono hle100
 replace hR1114 := hR1114.mono hle100
 replace hR10405 := hR10405.mono hle100
 replace hR10410 := hR10410.mono hle100
 replace hR10412 := hR10412.mono hle100
 replace hR54 := hR54.mono hle100
 replace hR64 := hR64.mono hle100
 replace hR66 := hR66.mono hle100
 replace hR76 := hR76.mono hle100
 refine om hf rfl rfl fun a hf => oR hf (rE hf rfl rfl) rfl fun a hf => oR hf (rE hf rfl rfl) rfl fun a hf => oa hf rfl rfl fun a hf => oa hf rfl rfl fun a hf => oN <| ct <| wq <| wr ?_
 obtain ⟨y104, hy103, hp⟩ := bS hp
 obtain ⟨y101, y102⟩ := y104
 have hc105 := slot_Decode_ok hw hy103
 refine o_call hf cb_29 rfl rfl hc105 (fun v109 w a hK106 hf => ?_)
 obtain ⟨I2_106, rvv107, rfl, hle110, hw, hR108⟩ := hK106
 replace hR1105 := hR1105.mono hle110
 replace hR1112 := hR1112.mono hle110
 replace hR1114 := hR1114.mono hle110
 replace hR10405 := hR10405.mono hle110
 replace hR10410 := hR10410.mono hle110
 replace hR10412 := hR10412.mono hle110
 replace hR54 := hR54.mono hle110
 replace hR64 := hR64.mono hle110
 replace hR66 := hR66.mono hle110
 replace hR76 := hR76.mono hle110
 replace hR98 := hR98.mono hle110
 refine om hf rfl rfl fun a hf => oR hf (rE hf rfl rfl) rfl fun a hf => oR hf (rE hf rfl rfl) rfl fun a hf => oa hf rfl rfl fun a hf => oa hf rfl rfl fun a hf => oN <| ct <| wq <| wr <| om hf rfl rfl fun a hf => ?_
 obtain ⟨hg111, hp⟩ := gS hp
 refine oR hf (r_sadd hf rfl rfl hg111) rfl fun a hf => ?_
 obtain ⟨y115, hy114, hp⟩ := bS hp
 obtain ⟨y112, y113⟩ := y115
 have hc116 := slot_Decode_ok hw hy114
 refine o_call hf cb_29 rfl rfl hc116 (fun v120 w a hK117 hf => ?_)
 obtain ⟨I2_117, rvv118, rfl, hle121, hw, hR119⟩ := hK117
 replace hR1105 := hR1105.mono hle121
 replace hR1112 := hR1112.mono hle121
 replace hR1114 := hR1114.mono hle121
 replace hR10405 := hR10405.mono hle121
 replace hR10410 := hR10410.mono hle121
 replace hR10412 := hR10412.mono hle121
 replace hR54 := hR54.mono hle121
 replace hR64 := hR64.mono hle121
 replace hR66 := hR66.mono hle121
 replace hR76 := hR76.mono hle121
 replace hR98 := hR98.mono hle121
 replace hR108 := hR108.mono hle121
 refine om hf rfl rfl fun a hf => oR hf (rE hf rfl rfl) rfl fun a hf => oR hf (rE hf rfl rfl) rfl fun a hf => oa hf rfl rfl fun a hf => oa hf rfl rfl fun a hf => oN <| ct <| wq ?_
 obtain ⟨out147, hp, hq148⟩ := bS hp
 refine c_cut (fun a w => ∃ y146 : Bool, y146 = out147 ∧ Ok E I2_117 (F) w ∧ Fr 115 ([(3, .string y55), (6, .bool y78), (7, rvv97), (9, rvv107), (12, .bool y113), (73, .bool y146)]) a) ?_ ?_
 ·refine wr <| om hf rfl rfl fun a hf => oR hf (r_not hf rfl) rfl fun a hf => om hf rfl rfl fun a hf => g_split hf (g := 56) rfl (fun hb149 hf => ?_) (fun hb149 hf => ?_)
  ·replace hp := cond_t hb149 hp
   refine oQ hf (g := 56) rfl fun a hf => oQ hf (g := 56) rfl fun a hf => oR hf (pT hf rfl rfl) rfl fun a hf => om hf rfl rfl fun a hf => oQ hf (g := 60) rfl fun a hf => oQ hf (g := 60) rfl fun a hf => oQ hf (g := 60) rfl fun a hf => oR hf (pT hf rfl rfl) rfl fun a hf => om hf rfl rfl fun a hf => oQ hf (g := 65) rfl fun a hf => oQ hf (g := 65) rfl fun a hf => oR hf (pT hf rfl rfl) rfl fun a hf => om hf rfl rfl fun a hf => oQ hf (g := 69) rfl fun a hf => oQ hf (g := 69) rfl fun a hf => oQ hf (g := 69) rfl fun a hf => ?_
   refine oR hf (pT hf rfl rfl) rfl fun a hf => oN <| ct ?_
   have ho := oI hp
   subst ho
   exact ⟨true, rfl, hw, hf.to ⟨rfl, rfl, rfl, rfl, rfl, rfl, trivial⟩⟩
  ·replace hp := cond_f hb149 hp
   refine oW hf (g := 56) rfl rfl <| om hf rfl rfl fun a hf => oW hf (g := 56) rfl rfl <| oR hf (r_not hf rfl) rfl fun a hf => oR hf (pF hf rfl rfl) rfl fun a hf => om hf rfl rfl fun a hf => g_split hf (g := 60) rfl (fun hb150 hf => ?_) (fun hb150 hf => ?_)
   ·replace hp := cond_t hb150 hp
    refine oQ hf (g := 60) rfl fun a hf => oQ hf (g := 60) rfl fun a hf => oQ hf (g := 60) rfl fun a hf => oR hf (pT hf rfl rfl) rfl fun a hf => om hf rfl rfl fun a hf => oQ hf (g := 65) rfl fun a hf => oQ hf (g := 65) rfl fun a hf => oR hf (pT hf rfl rfl) rfl fun a hf => om hf rfl rfl fun a hf => oQ hf (g := 69) rfl fun a hf => oQ hf (g := 69) rfl fun a hf => oQ hf (g := 69) rfl fun a hf => oR hf (pT hf rfl rfl) rfl fun a hf => oN <| ct ?_
    have ho := oI hp
    subst ho
    exact ⟨true, rfl, hw, hf.to ⟨rfl, rfl, rfl, rfl, rfl, rfl, trivial⟩⟩
   ·replace hp := cond_f hb150 hp
    refine oW hf (g := 60) rfl rfl <| om hf rfl rfl fun a hf => oW hf (g := 60) rfl rfl <| oR hf (r_lenL (K := ek_Slot) hf el_62 rfl (hR98.rd hw)) rfl fun a hf => oW hf (g := 60) rfl rfl <| oR hf (iC hf rfl rfl rfl) rfl fun a hf => oR hf (pF hf rfl rfl) rfl fun a hf => om hf rfl rfl fun a hf => g_split hf (g := 65) rfl (fun hb151 hf => ?_) (fun hb151 hf => ?_)
    ·replace hp := cond_t hb151 hp
     refine oQ hf (g := 65) rfl fun a hf => oQ hf (g := 65) rfl fun a hf => oR hf (pT hf rfl rfl) rfl fun a hf => om hf rfl rfl fun a hf => oQ hf (g := 69) rfl fun a hf => oQ hf (g := 69) rfl fun a hf => oQ hf (g := 69) rfl fun a hf => oR hf (pT hf rfl rfl) rfl fun a hf => oN <| ct ?_
     have ho := oI hp
     subst ho
     exact ⟨true, rfl, hw, hf.to ⟨rfl, rfl, rfl, rfl, rfl, rfl, trivial⟩⟩
    ·replace hp := cond_f hb151 hp
     refine oW hf (g := 65) rfl rfl <| om hf rfl rfl fun a hf => oW hf (g := 65) rfl rfl <| oR hf (r_not hf rfl) rfl fun a hf => oR hf (pF hf rfl rfl) rfl fun a hf => om hf rfl rfl fun a hf => g_split hf (g := 69) rfl (fun hb152 hf => ?_) (fun hb152 hf => ?_)
     ·replace hp := cond_t hb152 hp
      refine oQ hf (g := 69) rfl fun a hf => oQ hf (g := 69) rfl fun a hf => oQ hf (g := 69) rfl fun a hf => oR hf (pT hf rfl rfl) rfl fun a hf => oN <| ct ?_
      have ho := oI hp
      subst ho
      exact ⟨true, rfl, hw, hf.to ⟨rfl, rfl, rfl, rfl, rfl, rfl, trivial⟩⟩
     ·replace hp := cond_f hb152 hp
      refine oW hf (g := 69) rfl rfl <| om hf rfl rfl fun a hf => oW hf (g := 69) rfl rfl <| oR hf (r_lenL (K := ek_Slot) hf el_62 rfl (hR108.rd hw)) rfl fun a hf => oW hf (g := 69) rfl rfl <| oR hf (iC hf rfl rfl rfl) rfl fun a hf => oR hf (pF hf rfl rfl) rfl fun a hf => oN <| ct ?_
      have ho := oI hp
      subst ho
      exact ⟨((y101.length : Int) != 1), rfl, hw, hf.to ⟨rfl, rfl, rfl, rfl, rfl, rfl, trivial⟩⟩
 ·intro a w hM
  obtain ⟨y146, rfl, hw, hf⟩ := hM
  replace hp := hq148
  refine cC hf rfl (fun hb153 => ?_) (fun hb153 => ?_)
  ·replace hp := cond_t hb153 hp
   refine wq <| wr <| oa hf rfl rfl fun a hf => oN <| ct <| wp_ret <| c_thenR ?_
   have ho := oI hp
   subst ho
   exact b_ret1 hf results26 rfl ⟨_, rfl, ⟨rfl, (hw.back (IH.le_trans (IH.le_trans (IH.le_trans (IH.le_trans (IH.le_trans (IH.le_trans (IH.le_trans hle1104 hle1116) hle10407) hle53) hle75) hle100) hle110) hle121) sr)⟩⟩
  ·replace hp := cond_f hb153 hp
   refine wp_skip <| ct ?_
   obtain ⟨out181, hp, hq182⟩ := bS hp
   refine c_cut (fun a w => ∃ y180 : Bool, y180 = out181 ∧ Ok E I2_117 (F) w ∧ Fr 115 ([(0, .bool y180)]) a) ?_ ?_
   ·refine wr <| om hf rfl rfl fun a hf => oR hf (r_scmp hf rfl rfl rfl) rfl fun a hf => om hf rfl rfl fun a hf => g_split hf (g := 76) rfl (fun hb183 hf => ?_) (fun hb183 hf => ?_)
    ·replace hp := cond_t hb183 hp
     refine oW hf (g := 76) rfl rfl <| om hf rfl rfl fun a hf => oW hf (g := 76) rfl rfl <| oR hf (r_not hf rfl) rfl fun a hf => oR hf (pT hf rfl rfl) rfl fun a hf => om hf rfl rfl fun a hf => g_split hf (g := 80) rfl (fun hb184 hf => ?_) (fun hb184 hf => ?_)
     ·replace hp := cond_t hb184 hp
      refine oW hf (g := 80) rfl rfl <| om hf rfl rfl fun a hf => ?_
      obtain ⟨hg185, hp⟩ := gS hp
      refine oW hf (g := 80) rfl rfl <| oR hf (rI (K := ek_Slot) hf el_62 rfl rfl (hR98.rd hw) hg185) rfl fun a hf => oW hf (g := 80) rfl rfl <| oR hf (r_fieldAddrH hf rfl fd_70_4) rfl fun a hf => ?_
      obtain ⟨hg186, hp⟩ := gS hp
      refine oW hf (g := 80) rfl rfl <| oR hf (r_indexAddrAH hf el_49 rfl rfl hg186) rfl fun a hf => oW hf (g := 80) rfl rfl <| oR hf (r_loadH (K := ek_Slot) hf rfl ty_3 (hR98.rd hw) hg185 (Nat.add_assoc ..) (fun cs h => Slot_at h hg186)) rfl fun a hf => oW hf (g := 80) rfl rfl <| oR hf (iC hf rfl rfl rfl) rfl fun a hf => oR hf (pT hf rfl rfl) rfl fun a hf => om hf rfl rfl fun a hf => g_split hf (g := 88) rfl (fun hb187 hf => ?_) (fun hb187 hf => ?_)
      ·replace hp := cond_t hb187 hp
       refine oW hf (g := 88) rfl rfl <| om hf rfl rfl fun a hf => ?_
       obtain ⟨hg188, hp⟩ := gS hp
       refine oW hf (g := 88) rfl rfl <| oR hf (rI (K := ek_Slot) hf el_62 rfl rfl (hR98.rd hw) hg188) rfl fun a hf => oW hf (g := 88) rfl rfl <| oR hf (r_fieldAddrH hf rfl fd_70_4) rfl fun a hf => ?_
       obtain ⟨hg189, hp⟩ := gS hp
       refine oW hf (g := 88) rfl rfl <| oR hf (r_indexAddrAH hf el_49 rfl rfl hg189) rfl fun a hf => oW hf (g := 88) rfl rfl <| oR hf (r_loadH (K := ek_Slot) hf rfl ty_3 (hR98.rd hw) hg188 (Nat.add_assoc ..) (fun cs h => Slot_at h hg189)) rfl fun a hf => oW hf (g := 88) rfl rfl <| oR hf (iC hf rfl rfl rfl) rfl fun a hf => oR hf (pT hf rfl rfl) rfl fun a hf => om hf rfl rfl fun a hf => g_split hf (g := 96) rfl (fun hb190 hf => ?_) (fun hb190 hf => ?_)
       ·replace hp := cond_t hb190 hp
        refine oW hf (g := 96) rfl rfl <| om hf rfl rfl fun a hf => ?_
        obtain ⟨hg191, hp⟩ := gS hp
        refine oW hf (g := 96) rfl rfl <| oR hf (rI (K := ek_Slot) hf el_62 rfl rfl (hR98.rd hw) hg191) rfl fun a hf => oW hf (g := 96) rfl rfl <| oR hf (r_fieldAddrH hf rfl fd_70_3) rfl fun a hf => oW hf (g := 96) rfl rfl <| oR hf (r_loadH (K := ek_Slot) hf rfl ty_9 (hR98.rd hw) hg191 rfl (fun cs h => Slot_f3 h)) rfl fun a hf => oW hf (g := 96) rfl rfl <| oR hf (r_scmp hf rfl rfl rfl) rfl fun a hf => oR hf (pT hf rfl rfl) rfl fun a hf => om hf rfl rfl fun a hf => g_split hf (g := 103) rfl (fun hb192 hf => ?_) (fun hb192 hf => ?_)
        ·replace hp := cond_t hb192 hp
         refine oW hf (g := 103) rfl rfl <| om hf rfl rfl fun a hf => ?_
         obtain ⟨hg193, hp⟩ := gS hp
         refine oW hf (g := 103) rfl rfl <| oR hf (rI (K := ek_Slot) hf el_62 rfl rfl (hR108.rd hw) hg193) rfl fun a hf => oW hf (g := 103) rfl rfl <| oR hf (r_fieldAddrH hf rfl fd_70_4) rfl fun a hf => ?_
         obtain ⟨hg194, hp⟩ := gS hp
         refine oW hf (g := 103) rfl rfl <| oR hf (r_indexAddrAH hf el_49 rfl rfl hg194) rfl fun a hf => oW hf (g := 103) rfl rfl <| oR hf (r_loadH (K := ek_Slot) hf rfl ty_3 (hR108.rd hw) hg193 (Nat.add_assoc ..) (fun cs h => Slot_at h hg194)) rfl fun a hf => oW hf (g := 103) rfl rfl <| oR hf (iC hf rfl rfl rfl) rfl fun a hf => oR hf (pT hf rfl rfl) rfl fun a hf => om hf rfl rfl fun a hf => g_split hf (g := 111) rfl (fun hb195 hf => ?_) (fun hb195 hf => ?_)
         ·replace hp := cond_t hb195 hp
          refine oW hf (g := 111) rfl rfl <| om hf rfl rfl fun a hf => oW hf (g := 111) rfl rfl <| oR hf (r_not hf rfl) rfl fun a hf => oR hf (pT hf rfl rfl) rfl fun a hf => oa hf rfl rfl fun a hf => oN <| ct ?_
          have ho := oI hp
          subst ho
          exact ⟨(!y113), rfl, hw, hf.to ⟨rfl, trivial⟩⟩
         ·replace hp := cond_f hb195 hp
          refine oQ hf (g := 111) rfl fun a hf => oQ hf (g := 111) rfl fun a hf => oR hf (pF hf rfl rfl) rfl fun a hf => oa hf rfl rfl fun a hf => oN <| ct ?_
          have ho := oI hp
          subst ho
          exact ⟨false, rfl, hw, hf.to ⟨rfl, trivial⟩⟩
        ·replace hp := cond_f hb192 hp
         refine oQ hf (g := 103) rfl fun a hf => oQ hf (g := 103) rfl fun a hf => oQ hf (g := 103) rfl fun a hf => oQ hf (g := 103) rfl fun a hf => oQ hf (g := 103) rfl fun a hf => oQ hf (g := 103) rfl fun a hf => oR hf (pF hf rfl rfl) rfl fun a hf => om hf rfl rfl fun a hf => oQ hf (g := 111) rfl fun a hf => oQ hf (g := 111) rfl fun a hf => oR hf (pF hf rfl rfl) rfl fun a hf => oa hf rfl rfl fun a hf => oN <| ct ?_
         have ho := oI hp
         subst ho
         exact ⟨false, rfl, hw, hf.to ⟨rfl, trivial⟩⟩
       ·replace hp := cond_f hb190 hp
        refine oQ hf (g := 96) rfl fun a hf => oQ hf (g := 96) rfl fun a hf => oQ hf (g := 96) rfl fun a hf => oQ hf (g := 96) rfl fun a hf => oQ hf (g := 96) rfl fun a hf => oR hf (pF hf rfl rfl) rfl fun a hf => om hf rfl rfl fun a hf => oQ hf (g := 103) rfl fun a hf => oQ hf (g := 103) rfl fun a hf => oQ hf (g := 103) rfl fun a hf => oQ hf (g := 103) rfl fun a hf => oQ hf (g := 103) rfl fun a hf => oQ hf (g := 103) rfl fun a hf => oR hf (pF hf rfl rfl) rfl fun a hf => om hf rfl rfl fun a hf => oQ hf (g := 111) rfl fun a hf => ?_
        refine oQ hf (g := 111) rfl fun a hf => oR hf (pF hf rfl rfl) rfl fun a hf => oa hf rfl rfl fun a hf => oN <| ct ?_
        have ho := oI hp
        subst ho
        exact ⟨false, rfl, hw, hf.to ⟨rfl, trivial⟩⟩
      ·replace hp := cond_f hb187 hp
       refine oQ hf (g := 88) rfl fun a hf => oQ hf (g := 88) rfl fun a hf => oQ hf (g := 88) rfl fun a hf => oQ hf (g := 88) rfl fun a hf => oQ hf (g := 88) rfl fun a hf => oQ hf (g := 88) rfl fun a hf => oR hf (pF hf rfl rfl) rfl fun a hf => om hf rfl rfl fun a hf => oQ hf (g := 96) rfl fun a hf => oQ hf (g := 96) rfl fun a hf => oQ hf (g := 96) rfl fun a hf => oQ hf (g := 96) rfl fun a hf => oQ hf (g := 96) rfl fun a hf => oR hf (pF hf rfl rfl) rfl fun a hf => om hf rfl rfl fun a hf => oQ hf (g := 103) rfl fun a hf => ?_
       refine oQ hf (g := 103) rfl fun a hf => oQ hf (g := 103) rfl fun a hf => oQ hf (g := 103) rfl fun a hf => oQ hf (g := 103) rfl fun a hf => oQ hf (g := 103) rfl fun a hf => oR hf (pF hf rfl rfl) rfl fun a hf => om hf rfl rfl fun a hf => oQ hf (g := 111) rfl fun a hf => oQ hf (g := 111) rfl fun a hf => oR hf (pF hf rfl rfl) rfl fun a hf => oa hf rfl rfl fun a hf => oN <| ct ?_
       have ho := oI hp
       subst ho
       exact ⟨false, rfl, hw, hf.to ⟨rfl, trivial⟩⟩
     ·replace hp := cond_f hb184 hp
      refine oQ hf (g := 80) rfl fun a hf => oQ hf (g := 80) rfl fun a hf => oQ hf (g := 80) rfl fun a hf => oQ hf (g := 80) rfl fun a hf => oQ hf (g := 80) rfl fun a hf => oQ hf (g := 80) rfl fun a hf => oR hf (pF hf rfl rfl) rfl fun a hf => om hf rfl rfl fun a hf => oQ hf (g := 88) rfl fun a hf => oQ hf (g := 88) rfl fun a hf => oQ hf (g := 88) rfl fun a hf => oQ hf (g := 88) rfl fun a hf => oQ hf (g := 88) rfl fun a hf => oQ hf (g := 88) rfl fun a hf => oR hf (pF hf rfl rfl) rfl fun a hf => om hf rfl rfl fun a hf => ?_
      refine oQ hf (g := 96) rfl fun a hf => oQ hf (g := 96) rfl fun a hf => oQ hf (g := 96) rfl fun a hf => oQ hf (g := 96) rfl fun a hf => oQ hf (g := 96) rfl fun a hf => oR hf (pF hf rfl rfl) rfl fun a hf => om hf rfl rfl fun a hf => oQ hf (g := 103) rfl fun a hf => oQ hf (g := 103) rfl fun a hf => oQ hf (g := 103) rfl fun a hf => oQ hf (g := 103) rfl fun a hf => oQ hf (g := 103) rfl fun a hf => oQ hf (g := 103) rfl fun a hf => oR hf (pF hf rfl rfl) rfl fun a hf => om hf rfl rfl fun a hf => oQ hf (g := 111) rfl fun a hf => ?_
      refine oQ hf (g := 111) rfl fun a hf => oR hf (pF hf rfl rfl) rfl fun a hf => oa hf rfl rfl fun a hf => oN <| ct ?_
      have ho := oI hp
      subst ho
      exact ⟨false, rfl, hw, hf.to ⟨rfl, trivial⟩⟩
    ·replace hp := cond_f hb183 hp
     refine oQ hf (g := 76) rfl fun a hf => oQ hf (g := 76) rfl fun a hf => oR hf (pF hf rfl rfl) rfl fun a hf => om hf rfl rfl fun a hf => oQ hf (g := 80) rfl fun a hf => oQ hf (g := 80) rfl fun a hf => oQ hf (g := 80) rfl fun a hf => oQ hf (g := 80) rfl fun a hf => oQ hf (g := 80) rfl fun a hf => oQ hf (g := 80) rfl fun a hf => oR hf (pF hf rfl rfl) rfl fun a hf => om hf rfl rfl fun a hf => oQ hf (g := 88) rfl fun a hf => oQ hf (g := 88) rfl fun a hf => oQ hf (g := 88) rfl fun a hf => oQ hf (g := 88) rfl fun a hf => ?_
     refine oQ hf (g := 88) rfl fun a hf => oQ hf (g := 88) rfl fun a hf => oR hf (pF hf rfl rfl) rfl fun a hf => om hf rfl rfl fun a hf => oQ hf (g := 96) rfl fun a hf => oQ hf (g := 96) rfl fun a hf => oQ hf (g := 96) rfl fun a hf => oQ hf (g := 96) rfl fun a hf => oQ hf (g := 96) rfl fun a hf => oR hf (pF hf rfl rfl) rfl fun a hf => om hf rfl rfl fun a hf => oQ hf (g := 103) rfl fun a hf => oQ hf (g := 103) rfl fun a hf => oQ hf (g := 103) rfl fun a hf => oQ hf (g := 103) rfl fun a hf => oQ hf (g := 103) rfl fun a hf => ?_
     refine oQ hf (g := 103) rfl fun a hf => oR hf (pF hf rfl rfl) rfl fun a hf => om hf rfl rfl fun a hf => oQ hf (g := 111) rfl fun a hf => oQ hf (g := 111) rfl fun a hf => oR hf (pF hf rfl rfl) rfl fun a hf => oa hf rfl rfl fun a hf => oN <| ct ?_
     have ho := oI hp
     subst ho
     exact ⟨false, rfl, hw, hf.to ⟨rfl, trivial⟩⟩
   ·intro a w hM
    obtain ⟨y180, rfl, hw, hf⟩ := hM
    replace hp := hq182
    refine wp_ret ?_
    have ho := oI hp
    subst ho
    exact b_ret1 hf results26 rfl ⟨_, rfl, ⟨rfl, (hw.back (IH.le_trans (IH.le_trans (IH.le_trans (IH.le_trans (IH.le_trans (IH.le_trans (IH.le_trans hle1104 hle1116) hle10407) hle53) hle75) hle100) hle110) hle121) sr)⟩⟩

theorem ref20_Page_ok {E : World} {I : IH} {F : List Atom} {w : World} {a0 : Int} {res0 : Bool} (hw : Ok E I (F) w) (hp : ref20_Page.f a0 = some res0) :
  Calls P 32 ⟨[Value.int .i64 a0]⟩ w fun e w' => ∃ v, e = .returned v ∧ v = Value.bool res0 ∧ Ok E I (F) w' := by
 refine c_enter func32 rfl ntmps32 rfl fun a hf => ?_
 replace hf : Fr 9 [(0, .int .i64 a0)] a := hf
 unfold ref20_Page.f at hp
 refine wq <| wr <| oa hf rfl rfl fun a hf => oN <| ct ?_
 obtain ⟨out4, hp, hq5⟩ := bS hp
 refine c_cut (fun a w => ∃ y3 : Bool, y3 = out4 ∧ Ok E I (F) w ∧ Fr 9 ([(2, .bool y3)]) a) ?_ ?_
 ·refine wr <| om hf rfl rfl fun a hf => oR hf (iC hf rfl rfl rfl) rfl fun a hf => om hf rfl rfl fun a hf => g_split hf (g := 5) rfl (fun hb6 hf => ?_) (fun hb6 hf => ?_)
  ·replace hp := cond_t hb6 hp
   refine oW hf (g := 5) rfl rfl <| om hf rfl rfl fun a hf => oW hf (g := 5) rfl rfl <| oR hf (iC hf rfl rfl rfl) rfl fun a hf => oR hf (pT hf rfl rfl) rfl fun a hf => oa hf rfl rfl fun a hf => oN <| ct ?_
   have ho := oI hp
   subst ho
   exact ⟨(decide (a0 < 200)), rfl, hw, hf.to ⟨rfl, trivial⟩⟩
  ·replace hp := cond_f hb6 hp
   refine oQ hf (g := 5) rfl fun a hf => oQ hf (g := 5) rfl fun a hf => oR hf (pF hf rfl rfl) rfl fun a hf => oa hf rfl rfl fun a hf => oN <| ct ?_
   have ho := oI hp
   subst ho
   exact ⟨false, rfl, hw, hf.to ⟨rfl, trivial⟩⟩
 ·intro a w hM
  obtain ⟨y3, rfl, hw, hf⟩ := hM
  replace hp := hq5
  refine wp_ret ?_
  have ho := oI hp
  subst ho
  exact b_ret1 hf results32 rfl ⟨_, rfl, ⟨rfl, hw⟩⟩
end Go.Lf
