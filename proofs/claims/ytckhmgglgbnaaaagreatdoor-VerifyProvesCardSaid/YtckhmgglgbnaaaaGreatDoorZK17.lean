import Derived.Test.YtckhmgglgbnaaaaGreatDoorZD
import Derived.Test.YtckhmgglgbnaaaaGreatDoorZF
import Derived.Test.YtckhmgglgbnaaaaGreatDoorJ
import Derived.Test.YtckhmgglgbnaaaaGreatDoorUB
import Derived.Test.YtckhmgglgbnaaaaGreatDoorZK1
import Derived.Test.YtckhmgglgbnaaaaGreatDoorZK9
import Derived.Test.YtckhmgglgbnaaaaGreatDoorZK10
import Derived.Test.YtckhmgglgbnaaaaGreatDoorZK13
import Derived.Test.YtckhmgglgbnaaaaGreatDoorZK14
import Derived.Test.YtckhmgglgbnaaaaGreatDoorZK16
set_option linter.unusedVariables false
set_option linter.unusedSimpArgs false
set_option maxHeartbeats 1000000
set_option maxRecDepth 20000
namespace Go.Lf
open Go Go.Proofs.Tryz
theorem law17_wakes_ok {E : World} {I : IH} {F : List Atom} {w : World} {res0 : Bool} (hw : Ok E I (F) w) (hG : Gl I) (hp : law17_wakes.f = some res0) :
  Calls P 10 ⟨[]⟩ w fun e w' => ∃ v, e = .returned v ∧ v = Value.bool res0 ∧ Ok E I (F) w' := by
 refine c_enter func10 rfl ntmps10 rfl fun a hf => ?_
 replace hf : Fr 120 [] a := hf
 unfold law17_wakes.f at hp
 refine wq <| wr <| oa hf rfl rfl fun a hf => oN <| ct <| wq <| wr <| oR hf (r_build hf bd_74 (vs := [.string (⟨#[97]⟩ : ByteArray), .string (⟨#[49]⟩ : ByteArray)]) rfl ⟨rfl, rfl, trivial⟩ (by decide) (out := [.string (⟨#[97]⟩ : ByteArray), .string (⟨#[49]⟩ : ByteArray)]) rfl) rfl fun a hf => oR hf (r_build hf bd_74 (vs := [.string (⟨#[98]⟩ : ByteArray)]) rfl ⟨rfl, trivial⟩ (by decide) (out := [.string (⟨#[98]⟩ : ByteArray), .string e0]) rfl) rfl fun a hf => ?_
 obtain ⟨w, v1, hrun2, hw, hRR3⟩ := e_buildSlice (P := P) (K := ek_Pair) (m := 2) hw hf (parts := [(0, .tmp 19), (1, .tmp 20)]) el_22 ty_74 rfl rfl rfl (ccs := [[Value.string (⟨#[97]⟩ : ByteArray), Value.string (⟨#[49]⟩ : ByteArray)], [Value.string (⟨#[98]⟩ : ByteArray), Value.string e0]]) rfl (xs := [(⟨(⟨#[97]⟩ : ByteArray), (⟨#[49]⟩ : ByteArray)⟩ : Pair), (⟨(⟨#[98]⟩ : ByteArray), e0⟩ : Pair)]) ⟨rfl, rfl, trivial⟩ rfl
 obtain ⟨cs4, hcs⟩ : ∃ cs, cs = ([[Value.string (⟨#[97]⟩ : ByteArray), Value.string (⟨#[49]⟩ : ByteArray)], [Value.string (⟨#[98]⟩ : ByteArray), Value.string e0]] : List (List Value)).flatten := ⟨_, rfl⟩
 rw [← hcs] at hw hRR3; clear hcs
 refine o_eff hf (hrun2 ..) rfl fun a hf => ?_
 have hw : Ok E I (.row v1 74 2 2 cs4 :: F) w := hw.front (i := 0) rfl
 obtain ⟨I1103, hle1104, hw, hR1105⟩ := row_freeze (K := ek_Pair) hw hRR3
 replace hG := hG.mono hle1104
 obtain ⟨y1106, hy1107, hp⟩ := bS hp
 have hc1109 := ref10_Build_ok hw hG hR1105 hy1107
 refine o_call hf cb_11 rfl rfl hc1109 (fun v1115 w a hK1110 hf => ?_)
 obtain ⟨I2_1110, rvv1111, rvv1113, rfl, hle1116, hw, hR1112, hR1114⟩ := hK1110
 replace hG := hG.mono hle1116
 replace hR1105 := hR1105.mono hle1116
 refine oR hf (r_field hf rfl fd_30_0 ty_27 rfl) rfl fun a hf => oa hf rfl rfl fun a hf => oN <| ct <| wq <| wr <| om hf rfl rfl fun a hf => ?_
 obtain ⟨y32, hy33, hp⟩ := bS hp
 have hc35 := ref11_Root_ok hw hG hR1112 hy33
 refine o_call hf cb_14 rfl rfl hc35 (fun v37 w a hK36 hf => ?_)
 obtain ⟨rfl, hw⟩ := hK36
 refine oa hf rfl rfl fun a hf => oN <| ct <| wq <| wr <| om hf rfl rfl fun a hf => ?_
 obtain ⟨y943, hy942, hp⟩ := bS hp
 obtain ⟨y940, y941⟩ := y943
 have hc944 := ref16_Of_ok hw hG hR1112 hy942
 refine o_call hf cb_29 rfl rfl hc944 (fun v948 w a hK945 hf => ?_)
 obtain ⟨I2_945, rvv946, rfl, hle949, hw, hR947⟩ := hK945
 replace hG := hG.mono hle949
 replace hR1105 := hR1105.mono hle949
 replace hR1112 := hR1112.mono hle949
 replace hR1114 := hR1114.mono hle949
 refine om hf rfl rfl fun a hf => oR hf (rE hf rfl rfl) rfl fun a hf => oR hf (rE hf rfl rfl) rfl fun a hf => oa hf rfl rfl fun a hf => oa hf rfl rfl fun a hf => oN <| ct <| wq <| wr <| om hf rfl rfl fun a hf => ?_
 obtain ⟨y953, hy952, hp⟩ := bS hp
 obtain ⟨y950, y951⟩ := y953
 have hc954 := ref16_Of_ok hw hG hR1112 hy952
 refine o_call hf cb_29 rfl rfl hc954 (fun v958 w a hK955 hf => ?_)
 obtain ⟨I2_955, rvv956, rfl, hle959, hw, hR957⟩ := hK955
 replace hG := hG.mono hle959
 replace hR1105 := hR1105.mono hle959
 replace hR1112 := hR1112.mono hle959
 replace hR1114 := hR1114.mono hle959
 replace hR947 := hR947.mono hle959
 refine om hf rfl rfl fun a hf => oR hf (rE hf rfl rfl) rfl fun a hf => oR hf (rE hf rfl rfl) rfl fun a hf => oa hf rfl rfl fun a hf => oa hf rfl rfl fun a hf => oN <| ct <| wq <| wr <| om hf rfl rfl fun a hf => om hf rfl rfl fun a hf => ?_
 obtain ⟨y720, hy719, hp⟩ := bS hp
 obtain ⟨y717, y718⟩ := y720
 have hc721 := verify_Of_ok hw hG hR947 hy719
 refine o_call hf cb_13 rfl rfl hc721 (fun v723 w a hK722 hf => ?_)
 obtain ⟨rfl, hw⟩ := hK722
 refine om hf rfl rfl fun a hf => oR hf (rE hf rfl rfl) rfl fun a hf => oR hf (rE hf rfl rfl) rfl fun a hf => ?_
 obtain ⟨b724, w, hrun725, hw⟩ := e_alloc (P := P) (a := a) hw ty_36
 replace hw : Ok E I2_955 (.blk b724 (.cells ⟨[.bool false, .string e0]⟩ 36 (0, 0)) :: F) w := hw
 refine o_eff hf (hrun725 ..) rfl fun a hf => ?_
 obtain ⟨w, hrun727, hw⟩ := e_store (P := P) hw hf (x := .tmp 7) (y := .tmp 40) rfl rfl ty_36 0 rfl (vs := [.bool y717.has_, .string y717.value_]) rfl rfl (oC rfl (oC rfl ones_nil)) (by simp [arrC_len]) (cs' := [.bool y717.has_, .string y717.value_]) rfl
 replace hw : Ok E I2_955 (.blk b724 (.cells ⟨[.bool y717.has_, .string y717.value_]⟩ 36 (0, 0)) :: F) w := hw
 refine o_effU (hrun727 ..) <| oa hf rfl rfl fun a hf => oN <| ct <| wq <| wr <| om hf rfl rfl fun a hf => om hf rfl rfl fun a hf => ?_
 obtain ⟨y731, hy730, hp⟩ := bS hp
 obtain ⟨y728, y729⟩ := y731
 have hc732 := verify_Of_ok hw hG hR957 hy730
 refine o_call hf cb_13 rfl rfl hc732 (fun v734 w a hK733 hf => ?_)
 obtain ⟨rfl, hw⟩ := hK733
 refine om hf rfl rfl fun a hf => oR hf (rE hf rfl rfl) rfl fun a hf => oR hf (rE hf rfl rfl) rfl fun a hf => ?_
 obtain ⟨b735, w, hrun736, hw⟩ := e_alloc (P := P) (a := a) hw ty_36
 replace hw : Ok E I2_955 (.blk b735 (.cells ⟨[.bool false, .string e0]⟩ 36 (0, 0)) :: .blk b724 (.cells ⟨[.bool y717.has_, .string y717.value_]⟩ 36 (0, 0)) :: F) w := hw
 refine o_eff hf (hrun736 ..) rfl fun a hf => ?_
 obtain ⟨w, hrun738, hw⟩ := e_store (P := P) hw hf (x := .tmp 9) (y := .tmp 46) rfl rfl ty_36 0 rfl (vs := [.bool y728.has_, .string y728.value_]) rfl rfl (oC rfl (oC rfl ones_nil)) (by simp [arrC_len]) (cs' := [.bool y728.has_, .string y728.value_]) rfl
 replace hw : Ok E I2_955 (.blk b735 (.cells ⟨[.bool y728.has_, .string y728.value_]⟩ 36 (0, 0)) :: .blk b724 (.cells ⟨[.bool y717.has_, .string y717.value_]⟩ 36 (0, 0)) :: F) w := hw
 refine o_effU (hrun738 ..) <| oa hf rfl rfl fun a hf => oN <| ct <| wq <| wr <| om hf rfl rfl fun a hf => om hf rfl rfl fun a hf => ?_
 obtain ⟨y742, hy741, hp⟩ := bS hp
 obtain ⟨y739, y740⟩ := y742
 have hc743 := verify_Of_ok hw hG hR957 hy741
 refine o_call hf cb_13 rfl rfl hc743 (fun v745 w a hK744 hf => ?_)
 obtain ⟨rfl, hw⟩ := hK744
 refine om hf rfl rfl fun a hf => oR hf (rE hf rfl rfl) rfl fun a hf => oR hf (rE hf rfl rfl) rfl fun a hf => ?_
 obtain ⟨b746, w, hrun747, hw⟩ := e_alloc (P := P) (a := a) hw ty_36
 replace hw : Ok E I2_955 (.blk b746 (.cells ⟨[.bool false, .string e0]⟩ 36 (0, 0)) :: .blk b735 (.cells ⟨[.bool y728.has_, .string y728.value_]⟩ 36 (0, 0)) :: .blk b724 (.cells ⟨[.bool y717.has_, .string y717.value_]⟩ 36 (0, 0)) :: F) w := hw
 refine o_eff hf (hrun747 ..) rfl fun a hf => ?_
 obtain ⟨w, hrun749, hw⟩ := e_store (P := P) hw hf (x := .tmp 11) (y := .tmp 52) rfl rfl ty_36 0 rfl (vs := [.bool y739.has_, .string y739.value_]) rfl rfl (oC rfl (oC rfl ones_nil)) (by simp [arrC_len]) (cs' := [.bool y739.has_, .string y739.value_]) rfl
 replace hw : Ok E I2_955 (.blk b746 (.cells ⟨[.bool y739.has_, .string y739.value_]⟩ 36 (0, 0)) :: .blk b735 (.cells ⟨[.bool y728.has_, .string y728.value_]⟩ 36 (0, 0)) :: .blk b724 (.cells ⟨[.bool y717.has_, .string y717.value_]⟩ 36 (0, 0)) :: F) w := hw
 refine o_effU (hrun749 ..) <| oa hf rfl rfl fun a hf => oN <| ct <| wq <| wr <| om hf rfl rfl fun a hf => ?_
 obtain ⟨w, v750, hrun751, hw, hRR752⟩ := e_buildSlice (P := P) (K := ekS) (m := 0) hw hf (parts := []) el_28 ty_9 rfl rfl rfl (ccs := []) rfl (xs := ([] : List ByteArray)) trivial rfl
 obtain ⟨cs753, hcs⟩ : ∃ cs, cs = ([] : List (List Value)).flatten := ⟨_, rfl⟩
 rw [← hcs] at hw hRR752; clear hcs
 refine o_eff hf (hrun751 ..) rfl fun a hf => om hf rfl rfl fun a hf => ?_
 obtain ⟨hg755, hp⟩ := gS hp
 obtain ⟨w, v756, m757, cs758, hrun760, hw, hRR759⟩ := e_append (P := P) (K := ekS) (ty := 28) hw hf (s := .tmp 56) (x := .tmp 57) el_28 ty_9 rfl (by decide) 0 rfl rfl rfl hRR752 (ys := y940) (hR947.rd hw) hg755
 replace hw : Ok E I2_955 (.row v756 9 1 m757 cs758 :: .blk b746 (.cells ⟨[.bool y739.has_, .string y739.value_]⟩ 36 (0, 0)) :: .blk b735 (.cells ⟨[.bool y728.has_, .string y728.value_]⟩ 36 (0, 0)) :: .blk b724 (.cells ⟨[.bool y717.has_, .string y717.value_]⟩ 36 (0, 0)) :: F) w := hw
 refine o_eff hf (hrun760 ..) rfl fun a hf => ?_
 obtain ⟨w, v761, hrun762, hw, hRR763⟩ := e_buildSlice (P := P) (K := ekS) (m := 1) hw hf (parts := [(0, .const (Value.string (⟨#[120]⟩ : ByteArray)))]) el_28 ty_9 rfl rfl rfl (ccs := [[Value.string (⟨#[120]⟩ : ByteArray)]]) rfl (xs := [(⟨#[120]⟩ : ByteArray)]) ⟨rfl, trivial⟩ rfl
 obtain ⟨cs764, hcs⟩ : ∃ cs, cs = ([[Value.string (⟨#[120]⟩ : ByteArray)]] : List (List Value)).flatten := ⟨_, rfl⟩
 rw [← hcs] at hw hRR763; clear hcs
 refine o_eff hf (hrun762 ..) rfl fun a hf => ?_
 obtain ⟨hg766, hp⟩ := gS hp
 obtain ⟨w, v767, m768, cs769, hrun771, hw, hRR770⟩ := e_append (P := P) (K := ekS) (ty := 28) hw hf (s := .tmp 58) (x := .tmp 59) el_28 ty_9 rfl (by decide) 1 rfl rfl rfl hRR759 (ys := [(⟨#[120]⟩ : ByteArray)]) (rR (K := ekS) hw (i := 0) rfl hRR763) hg766
 replace hw : Ok E I2_955 (.row v761 9 1 1 cs764 :: .row v767 9 1 m768 cs769 :: .blk b746 (.cells ⟨[.bool y739.has_, .string y739.value_]⟩ 36 (0, 0)) :: .blk b735 (.cells ⟨[.bool y728.has_, .string y728.value_]⟩ 36 (0, 0)) :: .blk b724 (.cells ⟨[.bool y717.has_, .string y717.value_]⟩ 36 (0, 0)) :: F) w := hw
 refine o_eff hf (hrun771 ..) rfl fun a hf => ?_
 have hw : Ok E I2_955 (.row v767 9 1 m768 cs769 :: .row v761 9 1 1 cs764 :: .blk b746 (.cells ⟨[Value.bool y739.has_, Value.string y739.value_]⟩ 36 (0, 0)) :: .blk b735 (.cells ⟨[Value.bool y728.has_, Value.string y728.value_]⟩ 36 (0, 0)) :: .blk b724 (.cells ⟨[Value.bool y717.has_, Value.string y717.value_]⟩ 36 (0, 0)) :: F) w := hw.front (i := 1) rfl
 obtain ⟨I772, hle773, hw, hR774⟩ := row_freeze (K := ekS) hw hRR770
 replace hG := hG.mono hle773
 replace hR1105 := hR1105.mono hle773
 replace hR1112 := hR1112.mono hle773
 replace hR1114 := hR1114.mono hle773
 replace hR947 := hR947.mono hle773
 replace hR957 := hR957.mono hle773
 replace hRR763 := hRR763.mono hle773
 obtain ⟨y778, hy777, hp⟩ := bS hp
 obtain ⟨y775, y776⟩ := y778
 have hc779 := verify_Of_ok hw hG hR774 hy777
 refine o_call hf cb_13 rfl rfl hc779 (fun v781 w a hK780 hf => ?_)
 obtain ⟨rfl, hw⟩ := hK780
 refine om hf rfl rfl fun a hf => oR hf (rE hf rfl rfl) rfl fun a hf => oR hf (rE hf rfl rfl) rfl fun a hf => ?_
 obtain ⟨b782, w, hrun783, hw⟩ := e_alloc (P := P) (a := a) hw ty_36
 replace hw : Ok E I772 (.blk b782 (.cells ⟨[.bool false, .string e0]⟩ 36 (0, 0)) :: .row v761 9 1 1 cs764 :: .blk b746 (.cells ⟨[.bool y739.has_, .string y739.value_]⟩ 36 (0, 0)) :: .blk b735 (.cells ⟨[.bool y728.has_, .string y728.value_]⟩ 36 (0, 0)) :: .blk b724 (.cells ⟨[.bool y717.has_, .string y717.value_]⟩ 36 (0, 0)) :: F) w := hw
 refine o_eff hf (hrun783 ..) rfl fun a hf => ?_
 obtain ⟨w, hrun785, hw⟩ := e_store (P := P) hw hf (x := .tmp 13) (y := .tmp 62) rfl rfl ty_36 0 rfl (vs := [.bool y775.has_, .string y775.value_]) rfl rfl (oC rfl (oC rfl ones_nil)) (by simp [arrC_len]) (cs' := [.bool y775.has_, .string y775.value_]) rfl
 replace hw : Ok E I772 (.blk b782 (.cells ⟨[.bool y775.has_, .string y775.value_]⟩ 36 (0, 0)) :: .row v761 9 1 1 cs764 :: .blk b746 (.cells ⟨[.bool y739.has_, .string y739.value_]⟩ 36 (0, 0)) :: .blk b735 (.cells ⟨[.bool y728.has_, .string y728.value_]⟩ 36 (0, 0)) :: .blk b724 (.cells ⟨[.bool y717.has_, .string y717.value_]⟩ 36 (0, 0)) :: F) w := hw
 refine o_effU (hrun785 ..) <| oa hf rfl rfl fun a hf => oN <| ct <| wq <| wr ?_
 obtain ⟨y786, hy787, hp⟩ := bS hp
 have hc789 := ref11_Empty_ok hw hG hy787
 refine o_call hf cb_30 rfl rfl hc789 (fun v791 w a hK790 hf => ?_)
 obtain ⟨rfl, hw⟩ := hK790
 obtain ⟨y795, hy794, hp⟩ := bS hp
 obtain ⟨y792, y793⟩ := y795
 have hc796 := verify_Of_ok hw hG (RS.nil (K := ekS)) hy794
 refine o_call hf cb_13 rfl rfl hc796 (fun v798 w a hK797 hf => ?_)
 obtain ⟨rfl, hw⟩ := hK797
 refine om hf rfl rfl fun a hf => oR hf (rE hf rfl rfl) rfl fun a hf => oR hf (rE hf rfl rfl) rfl fun a hf => ?_
 obtain ⟨b799, w, hrun800, hw⟩ := e_alloc (P := P) (a := a) hw ty_36
 replace hw : Ok E I772 (.blk b799 (.cells ⟨[.bool false, .string e0]⟩ 36 (0, 0)) :: .blk b782 (.cells ⟨[.bool y775.has_, .string y775.value_]⟩ 36 (0, 0)) :: .row v761 9 1 1 cs764 :: .blk b746 (.cells ⟨[.bool y739.has_, .string y739.value_]⟩ 36 (0, 0)) :: .blk b735 (.cells ⟨[.bool y728.has_, .string y728.value_]⟩ 36 (0, 0)) :: .blk b724 (.cells ⟨[.bool y717.has_, .string y717.value_]⟩ 36 (0, 0)) :: F) w := hw
 refine o_eff hf (hrun800 ..) rfl fun a hf => ?_
 obtain ⟨w, hrun802, hw⟩ := e_store (P := P) hw hf (x := .tmp 15) (y := .tmp 67) rfl rfl ty_36 0 rfl (vs := [.bool y792.has_, .string y792.value_]) rfl rfl (oC rfl (oC rfl ones_nil)) (by simp [arrC_len]) (cs' := [.bool y792.has_, .string y792.value_]) rfl
 replace hw : Ok E I772 (.blk b799 (.cells ⟨[.bool y792.has_, .string y792.value_]⟩ 36 (0, 0)) :: .blk b782 (.cells ⟨[.bool y775.has_, .string y775.value_]⟩ 36 (0, 0)) :: .row v761 9 1 1 cs764 :: .blk b746 (.cells ⟨[.bool y739.has_, .string y739.value_]⟩ 36 (0, 0)) :: .blk b735 (.cells ⟨[.bool y728.has_, .string y728.value_]⟩ 36 (0, 0)) :: .blk b724 (.cells ⟨[.bool y717.has_, .string y717.value_]⟩ 36 (0, 0)) :: F) w := hw
 refine o_effU (hrun802 ..) <| oa hf rfl rfl fun a hf => oN <| ct <| wq <| wr <| om hf rfl rfl fun a hf => ?_
 obtain ⟨y806, hy805, hp⟩ := bS hp
 obtain ⟨y803, y804⟩ := y806
 have hc807 := verify_Of_ok hw hG (RS.nil (K := ekS)) hy805
 refine o_call hf cb_13 rfl rfl hc807 (fun v809 w a hK808 hf => ?_)
 obtain ⟨rfl, hw⟩ := hK808
 refine om hf rfl rfl fun a hf => oR hf (rE hf rfl rfl) rfl fun a hf => oR hf (rE hf rfl rfl) rfl fun a hf => ?_
 obtain ⟨b810, w, hrun811, hw⟩ := e_alloc (P := P) (a := a) hw ty_36
 replace hw : Ok E I772 (.blk b810 (.cells ⟨[.bool false, .string e0]⟩ 36 (0, 0)) :: .blk b799 (.cells ⟨[.bool y792.has_, .string y792.value_]⟩ 36 (0, 0)) :: .blk b782 (.cells ⟨[.bool y775.has_, .string y775.value_]⟩ 36 (0, 0)) :: .row v761 9 1 1 cs764 :: .blk b746 (.cells ⟨[.bool y739.has_, .string y739.value_]⟩ 36 (0, 0)) :: .blk b735 (.cells ⟨[.bool y728.has_, .string y728.value_]⟩ 36 (0, 0)) :: .blk b724 (.cells ⟨[.bool y717.has_, .string y717.value_]⟩ 36 (0, 0)) :: F) w := hw
 refine o_eff hf (hrun811 ..) rfl fun a hf => ?_
 obtain ⟨w, hrun813, hw⟩ := e_store (P := P) hw hf (x := .tmp 17) (y := .tmp 72) rfl rfl ty_36 0 rfl (vs := [.bool y803.has_, .string y803.value_]) rfl rfl (oC rfl (oC rfl ones_nil)) (by simp [arrC_len]) (cs' := [.bool y803.has_, .string y803.value_]) rfl
 replace hw : Ok E I772 (.blk b810 (.cells ⟨[.bool y803.has_, .string y803.value_]⟩ 36 (0, 0)) :: .blk b799 (.cells ⟨[.bool y792.has_, .string y792.value_]⟩ 36 (0, 0)) :: .blk b782 (.cells ⟨[.bool y775.has_, .string y775.value_]⟩ 36 (0, 0)) :: .row v761 9 1 1 cs764 :: .blk b746 (.cells ⟨[.bool y739.has_, .string y739.value_]⟩ 36 (0, 0)) :: .blk b735 (.cells ⟨[.bool y728.has_, .string y728.value_]⟩ 36 (0, 0)) :: .blk b724 (.cells ⟨[.bool y717.has_, .string y717.value_]⟩ 36 (0, 0)) :: F) w := hw
 refine o_effU (hrun813 ..) <| oa hf rfl rfl fun a hf => oN <| ct ?_
 obtain ⟨out55, hp, hq56⟩ := bS hp
 refine c_cut (fun a w => ∃ y54 : Bool, y54 = out55 ∧ Ok E I772 (.blk b810 (.cells ⟨[.bool y803.has_, .string y803.value_]⟩ 36 (0, 0)) :: .blk b799 (.cells ⟨[.bool y792.has_, .string y792.value_]⟩ 36 (0, 0)) :: .blk b782 (.cells ⟨[.bool y775.has_, .string y775.value_]⟩ 36 (0, 0)) :: .row v761 9 1 1 cs764 :: .blk b746 (.cells ⟨[.bool y739.has_, .string y739.value_]⟩ 36 (0, 0)) :: .blk b735 (.cells ⟨[.bool y728.has_, .string y728.value_]⟩ 36 (0, 0)) :: .blk b724 (.cells ⟨[.bool y717.has_, .string y717.value_]⟩ 36 (0, 0)) :: F) w ∧ Fr 120 ([(0, .bool y54)]) a) ?_ ?_
 ·refine wr <| om hf rfl rfl fun a hf => om hf rfl rfl fun a hf => g_split hf (g := 75) rfl (fun hb57 hf => ?_) (fun hb57 hf => ?_)
  ·replace hp := cond_t hb57 hp
   refine oW hf (g := 75) rfl rfl <| oR hf (r_loadA hw hf rfl ty_36 6 rfl (vs := [.bool y717.has_, .string y717.value_]) rfl rfl) rfl fun a hf => oW hf (g := 75) rfl rfl <| oR hf (r_build hf bd_36 (vs := [.bool true, .string (⟨#[49]⟩ : ByteArray)]) rfl ⟨rfl, rfl, trivial⟩ (by decide) (out := [.bool true, .string (⟨#[49]⟩ : ByteArray)]) rfl) rfl fun a hf => oW hf (g := 75) rfl rfl <| oR hf (r_eql_Answer hf (x := y717) (y := (⟨true, (⟨#[49]⟩ : ByteArray)⟩ : Answer)) rfl rfl) rfl fun a hf => oR hf (pT hf rfl rfl) rfl fun a hf => om hf rfl rfl fun a hf => g_split hf (g := 80) rfl (fun hb58 hf => ?_) (fun hb58 hf => ?_)
   ·replace hp := cond_t hb58 hp
    refine oW hf (g := 80) rfl rfl <| om hf rfl rfl fun a hf => oR hf (pT hf rfl rfl) rfl fun a hf => om hf rfl rfl fun a hf => g_split hf (g := 83) rfl (fun hb59 hf => ?_) (fun hb59 hf => ?_)
    ·replace hp := cond_t hb59 hp
     refine oW hf (g := 83) rfl rfl <| oR hf (r_loadA hw hf rfl ty_36 5 rfl (vs := [.bool y728.has_, .string y728.value_]) rfl rfl) rfl fun a hf => oW hf (g := 83) rfl rfl <| oR hf (r_build hf bd_36 (vs := []) rfl trivial (by decide) (out := [.bool false, .string e0]) rfl) rfl fun a hf => oW hf (g := 83) rfl rfl <| oR hf (r_eql_Answer hf (x := y728) (y := (⟨false, e0⟩ : Answer)) rfl rfl) rfl fun a hf => oR hf (pT hf rfl rfl) rfl fun a hf => om hf rfl rfl fun a hf => g_split hf (g := 88) rfl (fun hb60 hf => ?_) (fun hb60 hf => ?_)
     ·replace hp := cond_t hb60 hp
      refine oW hf (g := 88) rfl rfl <| om hf rfl rfl fun a hf => oW hf (g := 88) rfl rfl <| oR hf (r_not hf rfl) rfl fun a hf => oR hf (pT hf rfl rfl) rfl fun a hf => om hf rfl rfl fun a hf => g_split hf (g := 92) rfl (fun hb61 hf => ?_) (fun hb61 hf => ?_)
      ·replace hp := cond_t hb61 hp
       refine oW hf (g := 92) rfl rfl <| om hf rfl rfl fun a hf => oW hf (g := 92) rfl rfl <| oR hf (r_not hf rfl) rfl fun a hf => oR hf (pT hf rfl rfl) rfl fun a hf => om hf rfl rfl fun a hf => g_split hf (g := 96) rfl (fun hb62 hf => ?_) (fun hb62 hf => ?_)
       ·replace hp := cond_t hb62 hp
        refine oW hf (g := 96) rfl rfl <| om hf rfl rfl fun a hf => oR hf (pT hf rfl rfl) rfl fun a hf => om hf rfl rfl fun a hf => g_split hf (g := 99) rfl (fun hb63 hf => ?_) (fun hb63 hf => ?_)
        ·replace hp := cond_t hb63 hp
         refine oW hf (g := 99) rfl rfl <| oR hf (r_loadA hw hf rfl ty_36 1 rfl (vs := [.bool y792.has_, .string y792.value_]) rfl rfl) rfl fun a hf => oW hf (g := 99) rfl rfl <| oR hf (r_build hf bd_36 (vs := []) rfl trivial (by decide) (out := [.bool false, .string e0]) rfl) rfl fun a hf => oW hf (g := 99) rfl rfl <| oR hf (r_eql_Answer hf (x := y792) (y := (⟨false, e0⟩ : Answer)) rfl rfl) rfl fun a hf => oR hf (pT hf rfl rfl) rfl fun a hf => om hf rfl rfl fun a hf => g_split hf (g := 104) rfl (fun hb64 hf => ?_) (fun hb64 hf => ?_)
         ·replace hp := cond_t hb64 hp
          refine oW hf (g := 104) rfl rfl <| om hf rfl rfl fun a hf => oW hf (g := 104) rfl rfl <| oR hf (r_not hf rfl) rfl fun a hf => oR hf (pT hf rfl rfl) rfl fun a hf => om hf rfl rfl fun a hf => g_split hf (g := 108) rfl (fun hb65 hf => ?_) (fun hb65 hf => ?_)
          ·replace hp := cond_t hb65 hp
           refine oW hf (g := 108) rfl rfl <| om hf rfl rfl fun a hf => oW hf (g := 108) rfl rfl <| om hf rfl rfl fun a hf => oW hf (g := 108) rfl rfl ?_
           obtain ⟨y66, hy67, hp⟩ := bS hp
           have hc69 := verify_Steps_ok hw hG hR957 hy67
           refine o_call hf cb_16 rfl rfl hc69 (fun v71 w a hK70 hf => ?_)
           obtain ⟨rfl, hw⟩ := hK70
           refine oW hf (g := 108) rfl rfl <| oR hf (iC hf rfl rfl rfl) rfl fun a hf => oR hf (pT hf rfl rfl) rfl fun a hf => om hf rfl rfl fun a hf => g_split hf (g := 114) rfl (fun hb72 hf => ?_) (fun hb72 hf => ?_)
           ·replace hp := cond_t hb72 hp
            refine oW hf (g := 114) rfl rfl <| om hf rfl rfl fun a hf => oW hf (g := 114) rfl rfl <| om hf rfl rfl fun a hf => oW hf (g := 114) rfl rfl ?_
            obtain ⟨y73, hy74, hp⟩ := bS hp
            have hc76 := verify_Steps_ok hw hG hR947 hy74
            refine o_call hf cb_16 rfl rfl hc76 (fun v78 w a hK77 hf => ?_)
            obtain ⟨rfl, hw⟩ := hK77
            refine oW hf (g := 114) rfl rfl <| oR hf (iC hf rfl rfl rfl) rfl fun a hf => oR hf (pT hf rfl rfl) rfl fun a hf => oa hf rfl rfl fun a hf => oN <| ct ?_
            have ho := oI hp
            subst ho
            exact ⟨(y73 == 0), rfl, hw, hf.to ⟨rfl, trivial⟩⟩
           ·replace hp := cond_f hb72 hp
            refine oQ hf (g := 114) rfl fun a hf => oQ hf (g := 114) rfl fun a hf => oQ hf (g := 114) rfl fun a hf => oQ hf (g := 114) rfl fun a hf => oR hf (pF hf rfl rfl) rfl fun a hf => oa hf rfl rfl fun a hf => oN <| ct ?_
            have ho := oI hp
            subst ho
            exact ⟨false, rfl, hw, hf.to ⟨rfl, trivial⟩⟩
          ·replace hp := cond_f hb65 hp
           refine oQ hf (g := 108) rfl fun a hf => oQ hf (g := 108) rfl fun a hf => oQ hf (g := 108) rfl fun a hf => oQ hf (g := 108) rfl fun a hf => oR hf (pF hf rfl rfl) rfl fun a hf => om hf rfl rfl fun a hf => oQ hf (g := 114) rfl fun a hf => oQ hf (g := 114) rfl fun a hf => oQ hf (g := 114) rfl fun a hf => oQ hf (g := 114) rfl fun a hf => oR hf (pF hf rfl rfl) rfl fun a hf => oa hf rfl rfl fun a hf => oN <| ct ?_
           have ho := oI hp
           subst ho
           exact ⟨false, rfl, hw, hf.to ⟨rfl, trivial⟩⟩
         ·replace hp := cond_f hb64 hp
          refine oQ hf (g := 104) rfl fun a hf => oQ hf (g := 104) rfl fun a hf => oR hf (pF hf rfl rfl) rfl fun a hf => om hf rfl rfl fun a hf => oQ hf (g := 108) rfl fun a hf => oQ hf (g := 108) rfl fun a hf => oQ hf (g := 108) rfl fun a hf => oQ hf (g := 108) rfl fun a hf => oR hf (pF hf rfl rfl) rfl fun a hf => om hf rfl rfl fun a hf => oQ hf (g := 114) rfl fun a hf => oQ hf (g := 114) rfl fun a hf => oQ hf (g := 114) rfl fun a hf => oQ hf (g := 114) rfl fun a hf => oR hf (pF hf rfl rfl) rfl fun a hf => oa hf rfl rfl fun a hf => ?_
          refine oN <| ct ?_
          have ho := oI hp
          subst ho
          exact ⟨false, rfl, hw, hf.to ⟨rfl, trivial⟩⟩
        ·replace hp := cond_f hb63 hp
         refine oQ hf (g := 99) rfl fun a hf => oQ hf (g := 99) rfl fun a hf => oQ hf (g := 99) rfl fun a hf => oR hf (pF hf rfl rfl) rfl fun a hf => om hf rfl rfl fun a hf => oQ hf (g := 104) rfl fun a hf => oQ hf (g := 104) rfl fun a hf => oR hf (pF hf rfl rfl) rfl fun a hf => om hf rfl rfl fun a hf => oQ hf (g := 108) rfl fun a hf => oQ hf (g := 108) rfl fun a hf => oQ hf (g := 108) rfl fun a hf => oQ hf (g := 108) rfl fun a hf => oR hf (pF hf rfl rfl) rfl fun a hf => om hf rfl rfl fun a hf => oQ hf (g := 114) rfl fun a hf => ?_
         refine oQ hf (g := 114) rfl fun a hf => oQ hf (g := 114) rfl fun a hf => oQ hf (g := 114) rfl fun a hf => oR hf (pF hf rfl rfl) rfl fun a hf => oa hf rfl rfl fun a hf => oN <| ct ?_
         have ho := oI hp
         subst ho
         exact ⟨false, rfl, hw, hf.to ⟨rfl, trivial⟩⟩
       ·replace hp := cond_f hb62 hp
        refine oQ hf (g := 96) rfl fun a hf => oR hf (pF hf rfl rfl) rfl fun a hf => om hf rfl rfl fun a hf => oQ hf (g := 99) rfl fun a hf => oQ hf (g := 99) rfl fun a hf => oQ hf (g := 99) rfl fun a hf => oR hf (pF hf rfl rfl) rfl fun a hf => om hf rfl rfl fun a hf => oQ hf (g := 104) rfl fun a hf => oQ hf (g := 104) rfl fun a hf => oR hf (pF hf rfl rfl) rfl fun a hf => om hf rfl rfl fun a hf => oQ hf (g := 108) rfl fun a hf => oQ hf (g := 108) rfl fun a hf => oQ hf (g := 108) rfl fun a hf => oQ hf (g := 108) rfl fun a hf => ?_
        refine oR hf (pF hf rfl rfl) rfl fun a hf => om hf rfl rfl fun a hf => oQ hf (g := 114) rfl fun a hf => oQ hf (g := 114) rfl fun a hf => oQ hf (g := 114) rfl fun a hf => oQ hf (g := 114) rfl fun a hf => oR hf (pF hf rfl rfl) rfl fun a hf => oa hf rfl rfl fun a hf => oN <| ct ?_
        have ho := oI hp
        subst ho
        exact ⟨false, rfl, hw, hf.to ⟨rfl, trivial⟩⟩
      ·replace hp := cond_f hb61 hp
       refine oQ hf (g := 92) rfl fun a hf => oQ hf (g := 92) rfl fun a hf => oR hf (pF hf rfl rfl) rfl fun a hf => om hf rfl rfl fun a hf => oQ hf (g := 96) rfl fun a hf => oR hf (pF hf rfl rfl) rfl fun a hf => om hf rfl rfl fun a hf => oQ hf (g := 99) rfl fun a hf => oQ hf (g := 99) rfl fun a hf => oQ hf (g := 99) rfl fun a hf => oR hf (pF hf rfl rfl) rfl fun a hf => om hf rfl rfl fun a hf => oQ hf (g := 104) rfl fun a hf => oQ hf (g := 104) rfl fun a hf => oR hf (pF hf rfl rfl) rfl fun a hf => om hf rfl rfl fun a hf => ?_
       refine oQ hf (g := 108) rfl fun a hf => oQ hf (g := 108) rfl fun a hf => oQ hf (g := 108) rfl fun a hf => oQ hf (g := 108) rfl fun a hf => oR hf (pF hf rfl rfl) rfl fun a hf => om hf rfl rfl fun a hf => oQ hf (g := 114) rfl fun a hf => oQ hf (g := 114) rfl fun a hf => oQ hf (g := 114) rfl fun a hf => oQ hf (g := 114) rfl fun a hf => oR hf (pF hf rfl rfl) rfl fun a hf => oa hf rfl rfl fun a hf => oN <| ct ?_
       have ho := oI hp
       subst ho
       exact ⟨false, rfl, hw, hf.to ⟨rfl, trivial⟩⟩
     ·replace hp := cond_f hb60 hp
      refine oQ hf (g := 88) rfl fun a hf => oQ hf (g := 88) rfl fun a hf => oR hf (pF hf rfl rfl) rfl fun a hf => om hf rfl rfl fun a hf => oQ hf (g := 92) rfl fun a hf => oQ hf (g := 92) rfl fun a hf => oR hf (pF hf rfl rfl) rfl fun a hf => om hf rfl rfl fun a hf => oQ hf (g := 96) rfl fun a hf => oR hf (pF hf rfl rfl) rfl fun a hf => om hf rfl rfl fun a hf => oQ hf (g := 99) rfl fun a hf => oQ hf (g := 99) rfl fun a hf => oQ hf (g := 99) rfl fun a hf => oR hf (pF hf rfl rfl) rfl fun a hf => om hf rfl rfl fun a hf => ?_
      refine oQ hf (g := 104) rfl fun a hf => oQ hf (g := 104) rfl fun a hf => oR hf (pF hf rfl rfl) rfl fun a hf => om hf rfl rfl fun a hf => oQ hf (g := 108) rfl fun a hf => oQ hf (g := 108) rfl fun a hf => oQ hf (g := 108) rfl fun a hf => oQ hf (g := 108) rfl fun a hf => oR hf (pF hf rfl rfl) rfl fun a hf => om hf rfl rfl fun a hf => oQ hf (g := 114) rfl fun a hf => oQ hf (g := 114) rfl fun a hf => oQ hf (g := 114) rfl fun a hf => oQ hf (g := 114) rfl fun a hf => oR hf (pF hf rfl rfl) rfl fun a hf => oa hf rfl rfl fun a hf => ?_
      refine oN <| ct ?_
      have ho := oI hp
      subst ho
      exact ⟨false, rfl, hw, hf.to ⟨rfl, trivial⟩⟩
    ·replace hp := cond_f hb59 hp
     refine oQ hf (g := 83) rfl fun a hf => oQ hf (g := 83) rfl fun a hf => oQ hf (g := 83) rfl fun a hf => oR hf (pF hf rfl rfl) rfl fun a hf => om hf rfl rfl fun a hf => oQ hf (g := 88) rfl fun a hf => oQ hf (g := 88) rfl fun a hf => oR hf (pF hf rfl rfl) rfl fun a hf => om hf rfl rfl fun a hf => oQ hf (g := 92) rfl fun a hf => oQ hf (g := 92) rfl fun a hf => oR hf (pF hf rfl rfl) rfl fun a hf => om hf rfl rfl fun a hf => oQ hf (g := 96) rfl fun a hf => oR hf (pF hf rfl rfl) rfl fun a hf => om hf rfl rfl fun a hf => ?_
     refine oQ hf (g := 99) rfl fun a hf => oQ hf (g := 99) rfl fun a hf => oQ hf (g := 99) rfl fun a hf => oR hf (pF hf rfl rfl) rfl fun a hf => om hf rfl rfl fun a hf => oQ hf (g := 104) rfl fun a hf => oQ hf (g := 104) rfl fun a hf => oR hf (pF hf rfl rfl) rfl fun a hf => om hf rfl rfl fun a hf => oQ hf (g := 108) rfl fun a hf => oQ hf (g := 108) rfl fun a hf => oQ hf (g := 108) rfl fun a hf => oQ hf (g := 108) rfl fun a hf => oR hf (pF hf rfl rfl) rfl fun a hf => om hf rfl rfl fun a hf => oQ hf (g := 114) rfl fun a hf => ?_
     refine oQ hf (g := 114) rfl fun a hf => oQ hf (g := 114) rfl fun a hf => oQ hf (g := 114) rfl fun a hf => oR hf (pF hf rfl rfl) rfl fun a hf => oa hf rfl rfl fun a hf => oN <| ct ?_
     have ho := oI hp
     subst ho
     exact ⟨false, rfl, hw, hf.to ⟨rfl, trivial⟩⟩
   ·replace hp := cond_f hb58 hp
    refine oQ hf (g := 80) rfl fun a hf => oR hf (pF hf rfl rfl) rfl fun a hf => om hf rfl rfl fun a hf => oQ hf (g := 83) rfl fun a hf => oQ hf (g := 83) rfl fun a hf => oQ hf (g := 83) rfl fun a hf => oR hf (pF hf rfl rfl) rfl fun a hf => om hf rfl rfl fun a hf => oQ hf (g := 88) rfl fun a hf => oQ hf (g := 88) rfl fun a hf => oR hf (pF hf rfl rfl) rfl fun a hf => om hf rfl rfl fun a hf => oQ hf (g := 92) rfl fun a hf => oQ hf (g := 92) rfl fun a hf => oR hf (pF hf rfl rfl) rfl fun a hf => om hf rfl rfl fun a hf => ?_
    refine oQ hf (g := 96) rfl fun a hf => oR hf (pF hf rfl rfl) rfl fun a hf => om hf rfl rfl fun a hf => oQ hf (g := 99) rfl fun a hf => oQ hf (g := 99) rfl fun a hf => oQ hf (g := 99) rfl fun a hf => oR hf (pF hf rfl rfl) rfl fun a hf => om hf rfl rfl fun a hf => oQ hf (g := 104) rfl fun a hf => oQ hf (g := 104) rfl fun a hf => oR hf (pF hf rfl rfl) rfl fun a hf => om hf rfl rfl fun a hf => oQ hf (g := 108) rfl fun a hf => oQ hf (g := 108) rfl fun a hf => oQ hf (g := 108) rfl fun a hf => oQ hf (g := 108) rfl fun a hf => ?_
    refine oR hf (pF hf rfl rfl) rfl fun a hf => om hf rfl rfl fun a hf => oQ hf (g := 114) rfl fun a hf => oQ hf (g := 114) rfl fun a hf => oQ hf (g := 114) rfl fun a hf => oQ hf (g := 114) rfl fun a hf => oR hf (pF hf rfl rfl) rfl fun a hf => oa hf rfl rfl fun a hf => oN <| ct ?_
    have ho := oI hp
    subst ho
    exact ⟨false, rfl, hw, hf.to ⟨rfl, trivial⟩⟩
  ·replace hp := cond_f hb57 hp
   refine oQ hf (g := 75) rfl fun a hf => oQ hf (g := 75) rfl fun a hf => oQ hf (g := 75) rfl fun a hf => oR hf (pF hf rfl rfl) rfl fun a hf => om hf rfl rfl fun a hf => oQ hf (g := 80) rfl fun a hf => oR hf (pF hf rfl rfl) rfl fun a hf => om hf rfl rfl fun a hf => oQ hf (g := 83) rfl fun a hf => oQ hf (g := 83) rfl fun a hf => oQ hf (g := 83) rfl fun a hf => oR hf (pF hf rfl rfl) rfl fun a hf => om hf rfl rfl fun a hf => oQ hf (g := 88) rfl fun a hf => oQ hf (g := 88) rfl fun a hf => oR hf (pF hf rfl rfl) rfl fun a hf => ?_
   refine om hf rfl rfl fun a hf => oQ hf (g := 92) rfl fun a hf => oQ hf (g := 92) rfl fun a hf => oR hf (pF hf rfl rfl) rfl fun a hf => om hf rfl rfl fun a hf => oQ hf (g := 96) rfl fun a hf => oR hf (pF hf rfl rfl) rfl fun a hf => om hf rfl rfl fun a hf => oQ hf (g := 99) rfl fun a hf => oQ hf (g := 99) rfl fun a hf => oQ hf (g := 99) rfl fun a hf => oR hf (pF hf rfl rfl) rfl fun a hf => om hf rfl rfl fun a hf => oQ hf (g := 104) rfl fun a hf => oQ hf (g := 104) rfl fun a hf => oR hf (pF hf rfl rfl) rfl fun a hf => ?_
   refine om hf rfl rfl fun a hf => oQ hf (g := 108) rfl fun a hf => oQ hf (g := 108) rfl fun a hf => oQ hf (g := 108) rfl fun a hf => oQ hf (g := 108) rfl fun a hf => oR hf (pF hf rfl rfl) rfl fun a hf => om hf rfl rfl fun a hf => oQ hf (g := 114) rfl fun a hf => oQ hf (g := 114) rfl fun a hf => oQ hf (g := 114) rfl fun a hf => oQ hf (g := 114) rfl fun a hf => oR hf (pF hf rfl rfl) rfl fun a hf => oa hf rfl rfl fun a hf => oN <| ct ?_
   have ho := oI hp
   subst ho
   exact ⟨false, rfl, hw, hf.to ⟨rfl, trivial⟩⟩
 ·intro a w hM
  obtain ⟨y54, rfl, hw, hf⟩ := hM
  replace hp := hq56
  refine wp_ret ?_
  replace hw : Ok E I772 (F) w := hw.sub (sc (sc (sc (sc (sc (sc (sc sr)))))))
  have ho := oI hp
  subst ho
  exact b_ret1 hf results10 rfl ⟨_, rfl, ⟨rfl, (hw.back (IH.le_trans (IH.le_trans (IH.le_trans (IH.le_trans hle1104 hle1116) hle949) hle959) hle773) sr)⟩⟩

theorem nibble_Key_ok {E : World} {I : IH} {F : List Atom} {w : World} {a0 : ByteArray} {res0 : ByteArray} {res1 : Bool} (hw : Ok E I (F) w) (hG : Gl I) (hp : nibble_Key.f a0 = some (res0, res1)) :
  Calls P 200 ⟨[Value.string a0]⟩ w fun e w' => ∃ v, e = .returned v ∧ v = Value.tuple ⟨[Value.string res0, Value.bool res1]⟩ ∧ Ok E I (F) w' := by
 refine c_enter func200 rfl ntmps200 rfl fun a hf => ?_
 replace hf : Fr 15 [(0, .string a0)] a := hf
 unfold nibble_Key.f at hp
 refine wq <| wr <| oa hf rfl rfl fun a hf => oa hf rfl rfl fun a hf => oN <| ct <| wq ?_
 obtain ⟨out41, hp, hq42⟩ := bS hp
 refine c_cut (fun a w => ∃ y40 : Bool, y40 = out41 ∧ Ok E I (F) w ∧ Fr 15 ([(0, .string a0), (12, .bool y40)]) a) ?_ ?_
 ·refine wr <| om hf rfl rfl fun a hf => oR hf (r_lenS hf und_9 rfl) rfl fun a hf => oR hf (r_rem hf rfl rfl (by decide)) rfl fun a hf => oR hf (iC hf rfl rfl rfl) rfl fun a hf => om hf rfl rfl fun a hf => g_split hf (g := 8) rfl (fun hb43 hf => ?_) (fun hb43 hf => ?_)
  ·replace hp := cond_t hb43 hp
   refine oQ hf (g := 8) rfl fun a hf => oQ hf (g := 8) rfl fun a hf => oQ hf (g := 8) rfl fun a hf => oR hf (pT hf rfl rfl) rfl fun a hf => oN <| ct ?_
   have ho := oI hp
   subst ho
   exact ⟨true, rfl, hw, hf.to ⟨rfl, rfl, trivial⟩⟩
  ·replace hp := cond_f hb43 hp
   refine oW hf (g := 8) rfl rfl <| om hf rfl rfl fun a hf => oW hf (g := 8) rfl rfl ?_
   obtain ⟨y44, hy45, hp⟩ := bS hp
   have hc47 := nibble_small_ok hw hG hy45
   refine o_call hf cb_135 rfl rfl hc47 (fun v49 w a hK48 hf => ?_)
   obtain ⟨rfl, hw⟩ := hK48
   refine oW hf (g := 8) rfl rfl <| oR hf (r_not hf rfl) rfl fun a hf => oR hf (pF hf rfl rfl) rfl fun a hf => oN <| ct ?_
   have ho := oI hp
   subst ho
   exact ⟨(!y44), rfl, hw, hf.to ⟨rfl, rfl, trivial⟩⟩
 ·intro a w hM
  obtain ⟨y40, rfl, hw, hf⟩ := hM
  replace hp := hq42
  refine cC hf rfl (fun hb50 => ?_) (fun hb50 => ?_)
  ·replace hp := cond_t hb50 hp
   refine wq <| wr <| oa hf rfl rfl fun a hf => oa hf rfl rfl fun a hf => oN <| ct <| wp_ret <| c_thenR ?_
   have ho := oI hp
   simp only [Prod.mk.injEq] at ho
   obtain ⟨rfl, rfl⟩ := ho
   exact b_ret2 hf results200 rfl rfl ⟨_, rfl, ⟨rfl, hw⟩⟩
  ·replace hp := cond_f hb50 hp
   refine wp_skip <| ct <| wq <| wr <| om hf rfl rfl fun a hf => ?_
   obtain ⟨y51, hy52, hp⟩ := bS hp
   have hc54 := nibble_two_ok hw hG hy52
   refine o_call hf cb_98 rfl rfl hc54 (fun v56 w a hK55 hf => ?_)
   obtain ⟨rfl, hw⟩ := hK55
   refine oa hf rfl rfl fun a hf => oa hf rfl rfl fun a hf => oN <| ct <| wp_ret ?_
   have ho := oI hp
   simp only [Prod.mk.injEq] at ho
   obtain ⟨rfl, rfl⟩ := ho
   exact b_ret2 hf results200 rfl rfl ⟨_, rfl, ⟨rfl, hw⟩⟩

theorem trie_walker_pair_ok {E : World} {I : IH} {F : List Atom} {w : World} {a0b : Nat} {a0_p_t : List Node} {a0_p_tv41 : Value} {a0_p_next : Int} {a0_p_l : List Pair} {a0_p_lv : Value} {a0_p_lm : Nat} {a0_p_lcs : List Value} {a0_p_paths : List ByteArray} {a0_p_pathsv : Value} {a0_p_pathsm : Nat} {a0_p_pathscs : List Value} {a1 : ByteArray} {a2 : ByteArray} {res0 : Bool} {new_a0_p_l : List Pair} (hw : Ok E I (.blk a0b (.cells ⟨[a0_p_tv41, Value.int .i64 a0_p_next, a0_p_lv, a0_p_pathsv]⟩ 227 (0, 0)) :: .row a0_p_lv 74 2 a0_p_lm a0_p_lcs :: .row a0_p_pathsv 9 1 a0_p_pathsm a0_p_pathscs :: F) w) (hG : Gl I) (hR42 : RS ek_Node I a0_p_tv41 a0_p_t) (ha0_p_l : RowR ek_Pair I a0_p_lcs a0_p_l) (ha0_p_paths : RowR ekS I a0_p_pathscs a0_p_paths) (hp : trie_walker_pair.f a0_p_t a0_p_next a0_p_l a0_p_paths a1 a2 = some (res0, new_a0_p_l)) :
  Calls P 158 ⟨[Value.pointer (some ⟨a0b, 0, none⟩), Value.string a1, Value.string a2]⟩ w fun e w' => ∃ v, e = .returned v ∧ ∃ rv187 : Value, ∃ rm188 : Nat, ∃ rcs189 : List Value, v = Value.bool res0 ∧ Ok E I (.blk a0b (.cells ⟨[a0_p_tv41, Value.int .i64 a0_p_next, rv187, a0_p_pathsv]⟩ 227 (0, 0)) :: .row rv187 74 2 rm188 rcs189 :: .row a0_p_pathsv 9 1 a0_p_pathsm a0_p_pathscs :: F) w' ∧ RowR ek_Pair I rcs189 new_a0_p_l := by
 refine c_enter func158 rfl ntmps158 rfl fun a hf => ?_
 replace hf : Fr 27 [(0, .pointer (some ⟨a0b, 0, none⟩)), (1, .string a1), (2, .string a2)] a := hf
 unfold trie_walker_pair.f at hp
 refine wq <| wr <| oa hf rfl rfl fun a hf => oN <| ct <| wq <| wr <| om hf rfl rfl fun a hf => ?_
 obtain ⟨y4, hy3, hp⟩ := bS hp
 obtain ⟨y1, y2⟩ := y4
 have hc5 := nibble_Key_ok hw hG hy3
 refine o_call hf cb_200 rfl rfl hc5 (fun v7 w a hK6 hf => ?_)
 obtain ⟨rfl, hw⟩ := hK6
 refine om hf rfl rfl fun a hf => oR hf (rE hf rfl rfl) rfl fun a hf => oR hf (rE hf rfl rfl) rfl fun a hf => oa hf rfl rfl fun a hf => oa hf rfl rfl fun a hf => oN <| ct <| wq <| wr <| om hf rfl rfl fun a hf => om hf rfl rfl fun a hf => oR hf (nC hf rfl) rfl fun a hf => oR hf (rF hf rfl fd_227_2) rfl fun a hf => oR hf (rL hw hf rfl ty_22 0 rfl rfl) rfl fun a hf => om hf rfl rfl fun a hf => om hf rfl rfl fun a hf => ?_
 refine oR hf (r_build hf bd_74 (vs := [.string y1, .string a2]) rfl ⟨rfl, rfl, trivial⟩ (by decide) (out := [.string y1, .string a2]) rfl) rfl fun a hf => ?_
 obtain ⟨w, v8, hrun9, hw, hRR10⟩ := e_buildSlice (P := P) (K := ek_Pair) (m := 1) hw hf (parts := [(0, .tmp 21)]) el_22 ty_74 rfl rfl rfl (ccs := [[Value.string y1, Value.string a2]]) rfl (xs := [(⟨y1, a2⟩ : Pair)]) ⟨rfl, trivial⟩ rfl
 obtain ⟨cs11, hcs⟩ : ∃ cs, cs = ([[Value.string y1, Value.string a2]] : List (List Value)).flatten := ⟨_, rfl⟩
 rw [← hcs] at hw hRR10; clear hcs
 refine o_eff hf (hrun9 ..) rfl fun a hf => ?_
 obtain ⟨hg13, hp⟩ := gS hp
 obtain ⟨w, v14, m15, cs16, hrun18, hw, hRR17⟩ := e_append (P := P) (K := ek_Pair) (ty := 22) hw hf (s := .tmp 18) (x := .tmp 22) el_22 ty_74 rfl (by decide) 2 rfl rfl rfl ha0_p_l (ys := [(⟨y1, a2⟩ : Pair)]) (rR (K := ek_Pair) hw (i := 0) rfl hRR10) hg13
 replace hw : Ok E I (.row v8 74 2 1 cs11 :: .blk a0b (.cells ⟨[a0_p_tv41, .int .i64 a0_p_next, a0_p_lv, a0_p_pathsv]⟩ 227 (0, 0)) :: .row v14 74 2 m15 cs16 :: .row a0_p_pathsv 9 1 a0_p_pathsm a0_p_pathscs :: F) w := hw
 refine o_eff hf (hrun18 ..) rfl fun a hf => oR hf (nC hf rfl) rfl fun a hf => oR hf (rF hf rfl fd_227_2) rfl fun a hf => ?_
 obtain ⟨w, hrun19, hw⟩ := e_store (P := P) hw hf (x := .tmp 25) (y := .tmp 23) rfl rfl ty_22 1 rfl (vs := [v14]) (oE (row_one hw (i := 2) rfl)) rfl (oC (row_one hw (i := 2) rfl) ones_nil) (by simp [arrC_len]) (cs' := [a0_p_tv41, .int .i64 a0_p_next, v14, a0_p_pathsv]) rfl
 dsimp only [List.set] at hw
 refine o_effU (hrun19 ..) <| oN <| ct <| wq <| wr <| om hf rfl rfl fun a hf => oa hf rfl rfl fun a hf => oN <| ct <| wp_ret ?_
 replace hw : Ok E I (.blk a0b (.cells ⟨[a0_p_tv41, .int .i64 a0_p_next, v14, a0_p_pathsv]⟩ 227 (0, 0)) :: .row v14 74 2 m15 cs16 :: .row a0_p_pathsv 9 1 a0_p_pathsm a0_p_pathscs :: F) w := hw.sub (sc (scc (scc (scc sr))))
 have ho := oI hp
 simp only [Prod.mk.injEq] at ho
 obtain ⟨rfl, rfl⟩ := ho
 exact b_ret1 hf results158 rfl ⟨_, rfl, ⟨v14, m15, cs16, rfl, hw, hRR17⟩⟩
end Go.Lf
