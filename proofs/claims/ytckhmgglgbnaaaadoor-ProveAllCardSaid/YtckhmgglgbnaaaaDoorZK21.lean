/- The Go functions compute the plain Lean functions (printed by our lift.py). -/
import Derived.Test.YtckhmgglgbnaaaaDoorZD
import Derived.Test.YtckhmgglgbnaaaaDoorZF
import Derived.Test.YtckhmgglgbnaaaaDoorJ
import Derived.Test.YtckhmgglgbnaaaaDoorZK0
import Derived.Test.YtckhmgglgbnaaaaDoorZK1
import Derived.Test.YtckhmgglgbnaaaaDoorZK10
import Derived.Test.YtckhmgglgbnaaaaDoorZK18
import Derived.Test.YtckhmgglgbnaaaaDoorZK19
import Derived.Test.YtckhmgglgbnaaaaDoorZK20
set_option linter.unusedVariables false
set_option linter.unusedSimpArgs false
set_option maxHeartbeats 1000000
set_option maxRecDepth 20000
namespace Go.Lf
open Go
theorem law16_ProveAll_ok {E : World} {I : IH} {F : List Atom} {w : World} {a0 : List Pair} {a0v1 : Value} {res0 : Bool} (hw : Ok E I (F) w) (hG : Gl I) (hR2 : RS ek_Pair I a0v1 a0) (hp : law16_ProveAll.f a0 = some res0) :
  Calls P 11 ⟨[a0v1]⟩ w fun e w' => ∃ v, e = .returned v ∧ v = Value.bool res0 ∧ Ok E I (F) w' := by
 refine c_enter Go.Proofs.Tryd.func11 rfl Go.Proofs.Tryd.ntmps11 rfl fun a hf => ?_
 replace hf : Fr 118 [(0, a0v1)] a := hf
 unfold law16_ProveAll.f at hp
 refine wq <| wr <| oa hf rfl rfl fun a hf => oN <| ct <| wq ?_
 obtain ⟨out687, hp, hq688⟩ := bS hp
 refine c_cut (fun a w => ∃ y686 : Bool, y686 = out687 ∧ Ok E I (F) w ∧ Fr 118 ([(0, a0v1), (26, .bool y686)]) a) ?_ ?_
 ·refine wr <| om hf rfl rfl fun a hf => ?_
  obtain ⟨y689, hy690, hp⟩ := bS hp
  have hc692 := keep_LongPairs_ok hw hG hR2 hy690
  refine o_call hf cb_24 rfl rfl hc692 (fun v694 w a hK693 hf => ?_)
  obtain ⟨rfl, hw⟩ := hK693
  refine om hf rfl rfl fun a hf => g_split hf (g := 17) rfl (fun hb695 hf => ?_) (fun hb695 hf => ?_)
  ·replace hp := cond_t hb695 hp
   refine oS hf (g := 17) rfl rfl rfl rfl rfl rfl fun a hf => oS hf (g := 17) rfl rfl rfl rfl rfl rfl fun a hf => oS hf (g := 17) rfl rfl rfl rfl rfl rfl fun a hf => oR hf (pT hf rfl rfl) rfl fun a hf => om hf rfl rfl fun a hf => oS hf (g := 22) rfl rfl rfl rfl rfl rfl fun a hf => oS hf (g := 22) rfl rfl rfl rfl rfl rfl fun a hf => oS hf (g := 22) rfl rfl rfl rfl rfl rfl fun a hf => oR hf (pT hf rfl rfl) rfl fun a hf => oN <| ct ?_
   have ho := oI hp
   subst ho
   exact ⟨true, rfl, hw, hf.to ⟨rfl, rfl, trivial⟩⟩
  ·replace hp := cond_f hb695 hp
   refine oW hf (g := 17) rfl rfl <| om hf rfl rfl fun a hf => oW hf (g := 17) rfl rfl ?_
   obtain ⟨y696, hy697, hp⟩ := bS hp
   have hc699 := ref10_May_ok hw hG hR2 hy697
   refine o_call hf cb_25 rfl rfl hc699 (fun v701 w a hK700 hf => ?_)
   obtain ⟨rfl, hw⟩ := hK700
   refine oW hf (g := 17) rfl rfl <| oR hf (r_not hf rfl) rfl fun a hf => oR hf (pF hf rfl rfl) rfl fun a hf => om hf rfl rfl fun a hf => g_split hf (g := 22) rfl (fun hb702 hf => ?_) (fun hb702 hf => ?_)
   ·replace hp := cond_t hb702 hp
    refine oS hf (g := 22) rfl rfl rfl rfl rfl rfl fun a hf => oS hf (g := 22) rfl rfl rfl rfl rfl rfl fun a hf => oS hf (g := 22) rfl rfl rfl rfl rfl rfl fun a hf => oR hf (pT hf rfl rfl) rfl fun a hf => oN <| ct ?_
    have ho := oI hp
    subst ho
    exact ⟨true, rfl, hw, hf.to ⟨rfl, rfl, trivial⟩⟩
   ·replace hp := cond_f hb702 hp
    refine oW hf (g := 22) rfl rfl <| om hf rfl rfl fun a hf => oW hf (g := 22) rfl rfl <| oR hf (r_lenL (K := ek_Pair) hf el_45 rfl (hR2.rd hw)) rfl fun a hf => oW hf (g := 22) rfl rfl <| oR hf (iC hf rfl rfl rfl) rfl fun a hf => oR hf (pF hf rfl rfl) rfl fun a hf => oN <| ct ?_
    have ho := oI hp
    subst ho
    exact ⟨(decide ((a0.length : Int) > 10)), rfl, hw, hf.to ⟨rfl, rfl, trivial⟩⟩
 ·intro a w hM
  obtain ⟨y686, rfl, hw, hf⟩ := hM
  replace hp := hq688
  refine cC hf rfl (fun hb703 => ?_) (fun hb703 => ?_)
  ·replace hp := cond_t hb703 hp
   refine wq <| wr ?_
   obtain ⟨y704, hy705, hp⟩ := bS hp
   have hc707 := law16_wakes_ok hw hG hy705
   refine o_call hf cb_32 rfl rfl hc707 (fun v709 w a hK708 hf => ?_)
   obtain ⟨rfl, hw⟩ := hK708
   refine oa hf rfl rfl fun a hf => oN <| ct <| wp_ret <| c_thenR ?_
   have ho := oI hp
   subst ho
   exact b_ret1 hf Go.Proofs.Tryd.results11 rfl ⟨_, rfl, ⟨rfl, hw⟩⟩
  ·replace hp := cond_f hb703 hp
   refine wp_skip <| ct <| wq <| wr <| om hf rfl rfl fun a hf => ?_
   obtain ⟨y710, hy711, hp⟩ := bS hp
   have hc713 := ref10_Build_ok hw hG hR2 hy711
   refine o_call hf cb_26 rfl rfl hc713 (fun v719 w a hK714 hf => ?_)
   obtain ⟨I2_714, rvv715, rvv717, rfl, hle720, hw, hR716, hR718⟩ := hK714
   replace hG := hG.mono hle720
   replace hR2 := hR2.mono hle720
   refine oR hf (r_field hf rfl fd_48_0 ty_23 rfl) rfl fun a hf => oa hf rfl rfl fun a hf => oN <| ct <| wq <| wr <| om hf rfl rfl fun a hf => oR hf (r_lenL (K := ek_Node) hf el_23 rfl (hR716.rd hw)) rfl fun a hf => ?_
   obtain ⟨hg721, hp⟩ := gS hp
   obtain ⟨w, v722, cs725, hrun723, hw, hRR724⟩ := e_makeSlice (P := P) (K := ekB) hw hf (l := .tmp 32) (c := .tmp 32) el_77 ty_4 rfl (by decide) rfl rfl (x := false) (fun _ => rfl) hg721
   refine o_eff hf (hrun723 ..) rfl fun a hf => oa hf rfl rfl fun a hf => oN <| ct <| wq <| wr <| om hf rfl rfl fun a hf => ?_
   obtain ⟨y2317, hy2318, hp⟩ := bS hp
   have hc2320 := ref11_Of_ok hw hG hR716 hy2318
   refine o_call hf cb_17 rfl rfl hc2320 (fun v2326 w a hK2321 hf => ?_)
   obtain ⟨I2_2321, rvv2322, rvv2324, rfl, hle2327, hw, hR2323, hR2325⟩ := hK2321
   replace hG := hG.mono hle2327
   replace hR2 := hR2.mono hle2327
   replace hR716 := hR716.mono hle2327
   replace hR718 := hR718.mono hle2327
   replace hRR724 := hRR724.mono hle2327
   obtain ⟨b2328, w, hrun2329, hw⟩ := e_alloc (P := P) (a := a) hw ty_37
   replace hw : Ok E I2_2321 (.blk b2328 (.cells ⟨[.slice none 0 0, .slice none 0 0, .bool false]⟩ 37 (0, 0)) :: .row v722 4 1 (((y710.t_.length : Int)).toNat) cs725 :: F) w := hw
   refine o_eff hf (hrun2329 ..) rfl fun a hf => ?_
   obtain ⟨w, hrun2331, hw⟩ := e_store (P := P) hw hf (x := .tmp 5) (y := .tmp 35) rfl rfl ty_37 0 rfl (vs := [rvv2322, rvv2324, Value.bool y2317.ok_]) rfl rfl (oC hR2323.one (oC hR2325.one (oC rfl ones_nil))) (by simp [arrC_len]) (cs' := [rvv2322, rvv2324, Value.bool y2317.ok_]) rfl
   replace hw : Ok E I2_2321 (.blk b2328 (.cells ⟨[rvv2322, rvv2324, .bool y2317.ok_]⟩ 37 (0, 0)) :: .row v722 4 1 (((y710.t_.length : Int)).toNat) cs725 :: F) w := hw
   refine o_effU (hrun2331 ..) <| oN <| ct <| wq <| wq <| wr <| oa hf rfl rfl fun a hf => oN <| ct ?_
   obtain ⟨out5788, hp, hq5789⟩ := bS hp
   refine c_cutX (fun a w => ∃ y5783 : List Bool, ∃ I5782 : IH, ∃ yv5784 : Value, ∃ m5785 : Nat, ∃ cs5786 : List Value, (.inl y5783) = out5788 ∧ IH.le I2_2321 I5782 ∧ Ok E I5782 (.blk b2328 (.cells ⟨[rvv2322, rvv2324, .bool y2317.ok_]⟩ 37 (0, 0)) :: .row yv5784 4 1 m5785 cs5786 :: F) w ∧ Fr 118 ([(4, yv5784)]) a ∧ RowR ekB I5782 cs5786 y5783) ?_ ?_
   ·refine wp_block <| c_loop <| c_fuel (law16_ProveAll.l0 a0 y710 y2317) out5788 (fun (y3853, y3858) a w => ∃ I3852 : IH, ∃ yv3854 : Value, ∃ m3855 : Nat, ∃ cs3856 : List Value, IH.le I2_2321 I3852 ∧ Ok E I3852 (.blk b2328 (.cells ⟨[rvv2322, rvv2324, .bool y2317.ok_]⟩ 37 (0, 0)) :: .row yv3854 4 1 m3855 cs3856 :: F) w ∧ Fr 118 ([(0, a0v1), (3, rvv715), (4, yv3854), (5, .pointer (some ⟨b2328, 0, none⟩)), (6, .int .i64 y3858)]) a ∧ RowR ekB I3852 cs3856 y3853) (fun _ => rfl) ?_ BIG (List.replicate (y710.t_.length : Int).toNat false, 0) _ _ ⟨I2_2321, v722, (((y710.t_.length : Int)).toNat), cs725, (IH.le_refl _), hw, hf.to ⟨rfl, rfl, rfl, rfl, rfl, trivial⟩, hRR724⟩ hp
    intro k st a w hI hp ih
    obtain ⟨y3853, y3858⟩ := st
    obtain ⟨I3852, yv3854, m3855, cs3856, hle5790, hw, hf, hRR3857⟩ := hI
    rw [law16_ProveAll.l0] at hp
    replace hG := hG.mono hle5790
    replace hR2 := hR2.mono hle5790
    replace hR716 := hR716.mono hle5790
    replace hR2323 := hR2323.mono hle5790
    replace hR2325 := hR2325.mono hle5790
    refine wq <| wq <| wr <| om hf rfl rfl fun a hf => om hf rfl rfl fun a hf => oR hf (r_lenL (K := ek_Pair) hf el_45 rfl (hR2.rd hw)) rfl fun a hf => oR hf (iC hf rfl rfl rfl) rfl fun a hf => oN <| ct <| cC hf rfl (fun hb5791 => ?_) (fun hb5791 => ?_)
    ·replace hp := cond_t hb5791 hp
     refine wp_skip <| ct <| wq <| wp_block <| wq <| wr <| om hf rfl rfl fun a hf => om hf rfl rfl fun a hf => om hf rfl rfl fun a hf => ?_
     obtain ⟨hg6753, hp⟩ := gS hp
     refine oR hf (rI (K := ek_Pair) hf el_45 rfl rfl (hR2.rd hw) hg6753) rfl fun a hf => oR hf (r_fieldAddrH hf rfl fd_58_0) rfl fun a hf => oR hf (r_loadH (K := ek_Pair) hf rfl ty_9 (hR2.rd hw) hg6753 rfl (fun cs h => Pair_f0 h)) rfl fun a hf => ?_
     obtain ⟨y6757, hy6756, hp⟩ := bS hp
     obtain ⟨y6754, y6755⟩ := y6757
     have hc6758 := prove_Of_ok hw hG hR716 hy6756
     refine o_call hf cb_33 rfl rfl hc6758 (fun v6762 w a hK6759 hf => ?_)
     obtain ⟨I2_6759, rvv6760, rfl, hle6763, hw, hR6761⟩ := hK6759
     replace hG := hG.mono hle6763
     replace hR2 := hR2.mono hle6763
     replace hR716 := hR716.mono hle6763
     replace hR2323 := hR2323.mono hle6763
     replace hR2325 := hR2325.mono hle6763
     replace hRR3857 := hRR3857.mono hle6763
     refine om hf rfl rfl fun a hf => oR hf (rE hf rfl rfl) rfl fun a hf => oR hf (rE hf rfl rfl) rfl fun a hf => oa hf rfl rfl fun a hf => oa hf rfl rfl fun a hf => oN <| ct <| wq <| wr <| om hf rfl rfl fun a hf => om hf rfl rfl fun a hf => om hf rfl rfl fun a hf => ?_
     obtain ⟨hg6764, hp⟩ := gS hp
     refine oR hf (rI (K := ek_Pair) hf el_45 rfl rfl (hR2.rd hw) hg6764) rfl fun a hf => oR hf (r_fieldAddrH hf rfl fd_58_0) rfl fun a hf => oR hf (r_loadH (K := ek_Pair) hf rfl ty_9 (hR2.rd hw) hg6764 rfl (fun cs h => Pair_f0 h)) rfl fun a hf => ?_
     obtain ⟨y6768, hy6767, hp⟩ := bS hp
     obtain ⟨y6765, y6766⟩ := y6768
     have hc6769 := ref12_Walk_ok hw hG hR716 hy6767
     refine o_call hf cb_36 rfl rfl hc6769 (fun v6773 w a hK6770 hf => ?_)
     obtain ⟨I2_6770, rvv6771, rfl, hle6774, hw, hR6772⟩ := hK6770
     replace hG := hG.mono hle6774
     replace hR2 := hR2.mono hle6774
     replace hR716 := hR716.mono hle6774
     replace hR6761 := hR6761.mono hle6774
     replace hR2323 := hR2323.mono hle6774
     replace hR2325 := hR2325.mono hle6774
     replace hRR3857 := hRR3857.mono hle6774
     refine om hf rfl rfl fun a hf => oR hf (rE hf rfl rfl) rfl fun a hf => oR hf (rE hf rfl rfl) rfl fun a hf => oa hf rfl rfl fun a hf => oa hf rfl rfl fun a hf => oN <| ct <| wq ?_
     obtain ⟨out6785, hp, hq6786⟩ := bS hp
     refine c_cut (fun a w => ∃ y6784 : Bool, y6784 = out6785 ∧ Ok E I2_6770 (.blk b2328 (.cells ⟨[rvv2322, rvv2324, .bool y2317.ok_]⟩ 37 (0, 0)) :: .row yv3854 4 1 m3855 cs3856 :: F) w ∧ Fr 118 ([(0, a0v1), (3, rvv715), (4, yv3854), (5, .pointer (some ⟨b2328, 0, none⟩)), (6, .int .i64 y3858), (7, rvv6760), (9, rvv6771), (70, .bool y6784)]) a) ?_ ?_
     ·refine wr <| om hf rfl rfl fun a hf => oR hf (iC hf rfl rfl rfl) rfl fun a hf => om hf rfl rfl fun a hf => g_split hf (g := 64) rfl (fun hb6787 hf => ?_) (fun hb6787 hf => ?_)
      ·replace hp := cond_t hb6787 hp
       refine oS hf (g := 64) rfl rfl rfl rfl rfl rfl fun a hf => oS hf (g := 64) rfl rfl rfl rfl rfl rfl fun a hf => oS hf (g := 64) rfl rfl rfl rfl rfl rfl fun a hf => oS hf (g := 64) rfl rfl rfl rfl rfl rfl fun a hf => oS hf (g := 64) rfl rfl rfl rfl rfl rfl fun a hf => oR hf (pT hf rfl rfl) rfl fun a hf => oN <| ct ?_
       have ho := oI hp
       subst ho
       exact ⟨true, rfl, hw, hf.to ⟨rfl, rfl, rfl, rfl, rfl, rfl, rfl, rfl, trivial⟩⟩
      ·replace hp := cond_f hb6787 hp
       refine oW hf (g := 64) rfl rfl <| om hf rfl rfl fun a hf => oW hf (g := 64) rfl rfl <| oR hf (r_lenL (K := ekS) hf el_28 rfl (hR6761.rd hw)) rfl fun a hf => oW hf (g := 64) rfl rfl <| om hf rfl rfl fun a hf => oW hf (g := 64) rfl rfl <| oR hf (r_lenL (K := (ekI .i64)) hf el_70 rfl (hR6772.rd hw)) rfl fun a hf => oW hf (g := 64) rfl rfl <| oR hf (iC hf rfl rfl rfl) rfl fun a hf => oR hf (pF hf rfl rfl) rfl fun a hf => oN <| ct ?_
       have ho := oI hp
       subst ho
       exact ⟨((y6754.length : Int) != (y6765.length : Int)), rfl, hw, hf.to ⟨rfl, rfl, rfl, rfl, rfl, rfl, rfl, rfl, trivial⟩⟩
     ·intro a w hM
      obtain ⟨y6784, rfl, hw, hf⟩ := hM
      replace hp := hq6786
      refine cC hf rfl (fun hb6788 => ?_) (fun hb6788 => ?_)
      ·replace hp := cond_t hb6788 hp
       refine wq <| wr <| oa hf rfl rfl fun a hf => oN <| ct <| wp_ret <| c_thenR <| c_blockR <| c_thenR <| c_thenR <| c_blockR <| c_thenR ?_
       have ho := oI hp
       subst ho
       replace hp := hq5789
       refine c_thenR ?_
       replace hw : Ok E I2_6770 (F) w := hw.sub (sc (sc sr))
       have ho := oI hp
       subst ho
       exact b_ret1 hf Go.Proofs.Tryd.results11 rfl ⟨_, rfl, ⟨rfl, (hw.back (IH.le_trans (IH.le_trans (IH.le_trans (IH.le_trans hle720 hle2327) hle5790) hle6763) hle6774) sr)⟩⟩
      ·replace hp := cond_f hb6788 hp
       refine wp_skip <| ct <| wq <| wr <| oa hf rfl rfl fun a hf => oN <| ct ?_
       obtain ⟨out7484, hp, hq7485⟩ := bS hp
       refine c_cutX (fun a w => ∃ y7479 : List Bool, ∃ I7478 : IH, ∃ yv7480 : Value, ∃ m7481 : Nat, ∃ cs7482 : List Value, (.inl y7479) = out7484 ∧ IH.le I2_6770 I7478 ∧ Ok E I7478 (.blk b2328 (.cells ⟨[rvv2322, rvv2324, .bool y2317.ok_]⟩ 37 (0, 0)) :: .row yv7480 4 1 m7481 cs7482 :: F) w ∧ Fr 118 ([(0, a0v1), (3, rvv715), (4, yv7480), (5, .pointer (some ⟨b2328, 0, none⟩)), (6, .int .i64 y3858)]) a ∧ RowR ekB I7478 cs7482 y7479) ?_ ?_
       ·refine wp_block <| c_loop <| c_fuel (law16_ProveAll.l1 y2317 y6754 y6765) out7484 (fun (y7247, y7252) a w => ∃ I7246 : IH, ∃ yv7248 : Value, ∃ m7249 : Nat, ∃ cs7250 : List Value, IH.le I2_6770 I7246 ∧ Ok E I7246 (.blk b2328 (.cells ⟨[rvv2322, rvv2324, .bool y2317.ok_]⟩ 37 (0, 0)) :: .row yv7248 4 1 m7249 cs7250 :: F) w ∧ Fr 118 ([(0, a0v1), (3, rvv715), (4, yv7248), (5, .pointer (some ⟨b2328, 0, none⟩)), (6, .int .i64 y3858), (7, rvv6760), (9, rvv6771), (11, .int .i64 y7252)]) a ∧ RowR ekB I7246 cs7250 y7247) (fun _ => rfl) ?_ BIG (y3853, 0) _ _ ⟨I2_6770, yv3854, m3855, cs3856, (IH.le_refl _), hw, hf.to ⟨rfl, rfl, rfl, rfl, rfl, rfl, rfl, rfl, trivial⟩, hRR3857⟩ hp
        intro k st a w hI hp ih
        obtain ⟨y7247, y7252⟩ := st
        obtain ⟨I7246, yv7248, m7249, cs7250, hle7486, hw, hf, hRR7251⟩ := hI
        rw [law16_ProveAll.l1] at hp
        replace hG := hG.mono hle7486
        replace hR2 := hR2.mono hle7486
        replace hR716 := hR716.mono hle7486
        replace hR6761 := hR6761.mono hle7486
        replace hR6772 := hR6772.mono hle7486
        replace hR2323 := hR2323.mono hle7486
        replace hR2325 := hR2325.mono hle7486
        refine wq <| wq <| wr <| om hf rfl rfl fun a hf => om hf rfl rfl fun a hf => oR hf (r_lenL (K := (ekI .i64)) hf el_70 rfl (hR6772.rd hw)) rfl fun a hf => oR hf (iC hf rfl rfl rfl) rfl fun a hf => oN <| ct <| cC hf rfl (fun hb7487 => ?_) (fun hb7487 => ?_)
        ·replace hp := cond_t hb7487 hp
         refine wp_skip <| ct <| wq <| wp_block <| wq <| wr <| om hf rfl rfl fun a hf => om hf rfl rfl fun a hf => ?_
         obtain ⟨hg7600, hp⟩ := gS hp
         refine oR hf (rI (K := ekS) hf el_28 rfl rfl (hR6761.rd hw) hg7600) rfl fun a hf => oR hf (r_loadH (K := ekS) hf rfl ty_9 (hR6761.rd hw) hg7600 rfl (fun cs h => ekS_f0 h)) rfl fun a hf => ?_
         obtain ⟨y7604, hy7603, hp⟩ := bS hp
         obtain ⟨y7601, y7602⟩ := y7604
         have hc7605 := node_Decode_ok hw hG hy7603
         refine o_call hf cb_38 rfl rfl hc7605 (fun v7609 w a hK7606 hf => ?_)
         obtain ⟨I2_7606, rvv7607, rfl, hle7610, hw, hR7608⟩ := hK7606
         replace hG := hG.mono hle7610
         replace hR2 := hR2.mono hle7610
         replace hR716 := hR716.mono hle7610
         replace hR6761 := hR6761.mono hle7610
         replace hR6772 := hR6772.mono hle7610
         replace hR2323 := hR2323.mono hle7610
         replace hR2325 := hR2325.mono hle7610
         replace hRR7251 := hRR7251.mono hle7610
         refine om hf rfl rfl fun a hf => oR hf (rE hf rfl rfl) rfl fun a hf => oR hf (rE hf rfl rfl) rfl fun a hf => ?_
         obtain ⟨b7611, w, hrun7612, hw⟩ := e_alloc (P := P) (a := a) hw ty_32
         replace hw : Ok E I2_7606 (.blk b7611 (.cells ⟨[.int .i64 0, .string (⟨#[]⟩ : ByteArray), .bool false, .string (⟨#[]⟩ : ByteArray), .int .i64 0, .slice none 0 0]⟩ 32 (0, 0)) :: .blk b2328 (.cells ⟨[rvv2322, rvv2324, .bool y2317.ok_]⟩ 37 (0, 0)) :: .row yv7248 4 1 m7249 cs7250 :: F) w := hw
         refine o_eff hf (hrun7612 ..) rfl fun a hf => ?_
         obtain ⟨w, hrun7614, hw⟩ := e_store (P := P) hw hf (x := .tmp 12) (y := .tmp 83) rfl rfl ty_32 0 rfl (vs := [Value.int .i64 y7601.kind_, Value.string y7601.path_, Value.bool y7601.has_, Value.string y7601.value_, Value.int .i64 y7601.mask_, rvv7607]) rfl rfl (oC rfl (oC rfl (oC rfl (oC rfl (oC rfl (oC hR7608.one ones_nil)))))) (by simp [arrC_len]) (cs' := [Value.int .i64 y7601.kind_, Value.string y7601.path_, Value.bool y7601.has_, Value.string y7601.value_, Value.int .i64 y7601.mask_, rvv7607]) rfl
         replace hw : Ok E I2_7606 (.blk b7611 (.cells ⟨[.int .i64 y7601.kind_, .string y7601.path_, .bool y7601.has_, .string y7601.value_, .int .i64 y7601.mask_, rvv7607]⟩ 32 (0, 0)) :: .blk b2328 (.cells ⟨[rvv2322, rvv2324, .bool y2317.ok_]⟩ 37 (0, 0)) :: .row yv7248 4 1 m7249 cs7250 :: F) w := hw
         refine o_effU (hrun7614 ..) <| oa hf rfl rfl fun a hf => oN <| ct <| wq ?_
         obtain ⟨out7690, hp, hq7691⟩ := bS hp
         refine c_cut (fun a w => ∃ y7689 : Bool, y7689 = out7690 ∧ Ok E I2_7606 (.blk b7611 (.cells ⟨[.int .i64 y7601.kind_, .string y7601.path_, .bool y7601.has_, .string y7601.value_, .int .i64 y7601.mask_, rvv7607]⟩ 32 (0, 0)) :: .blk b2328 (.cells ⟨[rvv2322, rvv2324, .bool y2317.ok_]⟩ 37 (0, 0)) :: .row yv7248 4 1 m7249 cs7250 :: F) w ∧ Fr 118 ([(0, a0v1), (3, rvv715), (4, yv7248), (5, .pointer (some ⟨b2328, 0, none⟩)), (6, .int .i64 y3858), (7, rvv6760), (9, rvv6771), (11, .int .i64 y7252), (99, .bool y7689)]) a) ?_ ?_
         ·refine c_drawn mix [] (.rd 0 (.rd 1 (.rd 2 (.rd 3 (.rd 4 (.rd 5 (.rd 6 (.rd 7 (.rd 8 (.rd 9 (.rd 10 (.rd 11 (.ef 12 (.rd 13 (.rd 14 .done))))))))))))))) (by kernel_rfl) hw (fun w => Ok E I2_7606 (.blk b7611 (.cells ⟨[.int .i64 y7601.kind_, .string y7601.path_, .bool y7601.has_, .string y7601.value_, .int .i64 y7601.mask_, rvv7607]⟩ 32 (0, 0)) :: .blk b2328 (.cells ⟨[rvv2322, rvv2324, .bool y2317.ok_]⟩ 37 (0, 0)) :: .row yv7248 4 1 m7249 cs7250 :: F) w) (fun w hw => ⟨hw.sub (scc (scc (scc sr))), ?_⟩)
          refine tm rfl hf rfl rfl fun a hf => tR rfl hf (fun w hw => r_not hf rfl) rfl fun a hf => tm rfl hf rfl rfl fun a hf => g_split hf (g := 87) rfl (fun hb7693 hf => ?_) (fun hb7693 hf => ?_)
          ·replace hp := cond_t hb7693 hp
           refine tS rfl rfl hf rfl rfl rfl fun a hf => tS rfl rfl hf rfl rfl rfl fun a hf => tS rfl rfl hf rfl rfl rfl fun a hf => tS rfl rfl hf rfl rfl rfl fun a hf => tS rfl rfl hf rfl rfl rfl fun a hf => tS rfl rfl hf rfl rfl rfl fun a hf => tS rfl rfl hf rfl rfl rfl fun a hf => tS rfl rfl hf rfl rfl rfl fun a hf => tS rfl rfl hf rfl rfl rfl fun a hf => t_ef rfl <| t_skipE rfl hf rfl rfl rfl fun a hf => ⟨.inr (hw.back (IH.le_refl _) (scc (scc (scc sr)))), ?_⟩
           refine tS rfl rfl hf rfl rfl rfl fun a hf => tR rfl hf (fun w hw => pT hf rfl rfl) rfl fun a hf => t_done <| ct ?_
           have ho := oI hp
           subst ho
           exact ⟨true, rfl, hw, hf.to ⟨rfl, rfl, rfl, rfl, rfl, rfl, rfl, rfl, rfl, trivial⟩⟩
          ·replace hp := cond_f hb7693 hp
           refine tG rfl rfl hf rfl (fun w hw => r_loadA hw hf rfl ty_32 0 rfl (vs := [Value.int .i64 y7601.kind_, Value.string y7601.path_, Value.bool y7601.has_, Value.string y7601.value_, Value.int .i64 y7601.mask_, rvv7607]) rfl rfl) rfl fun a hf => tG rfl rfl hf rfl (fun w hw => rF hf rfl fd_37_0) rfl fun a hf => tG rfl rfl hf rfl (fun w hw => rL hw hf rfl ty_35 1 rfl rfl) rfl fun a hf => tG rfl rfl hf rfl (fun w hw => r_move hf rfl) rfl fun a hf => tG rfl rfl hf rfl (fun w hw => r_move hf rfl) rfl fun a hf => ?_
           obtain ⟨hg7694, hp⟩ := gS hp
           refine tG rfl rfl hf rfl (fun w hw => rI (K := (ekI .i64)) hf el_70 rfl rfl (hR6772.rd hw) hg7694) rfl fun a hf => tG rfl rfl hf rfl (fun w hw => r_loadH (K := (ekI .i64)) hf rfl ty_3 (hR6772.rd hw) hg7694 rfl (fun cs h => ekI_f0 h)) rfl fun a hf => ?_
           obtain ⟨hg7695, hp⟩ := gS hp
           refine tG rfl rfl hf rfl (fun w hw => rI (K := ek_Item) hf el_35 rfl rfl (hR2323.rd hw) hg7695) rfl fun a hf => ?_
           obtain ⟨_, ⟨vv7696, rfl, hR7697⟩, hrun7699⟩ := rs_loadHA (P := P) ty_32 hR2323 hg7695 rfl (fun cs h => Item_all h)
           refine tG rfl rfl hf rfl (fun w hw => hrun7699 _ _ _ _ _ _ _ _ _ _ _ _ hw hf rfl) rfl fun a hf => t_ef rfl ?_
           obtain ⟨y7700, hy7701, hp⟩ := bS hp
           have hc7703 := keep_Item_ok hw hG hR7608 hR7697 hy7701
           refine t_callG rfl hf rfl cb_20 rfl rfl hc7703 (fun v7705 w a hK7704 hf => ?_)
           obtain ⟨rfl, hw⟩ := hK7704
           refine ⟨.inr (hw.back (IH.le_refl _) (scc (scc (scc sr)))), ?_⟩
           refine tG rfl rfl hf rfl (fun w hw => r_not hf rfl) rfl fun a hf => tR rfl hf (fun w hw => pF hf rfl rfl) rfl fun a hf => t_done <| ct ?_
           have ho := oI hp
           subst ho
           exact ⟨(!y7700), rfl, hw, hf.to ⟨rfl, rfl, rfl, rfl, rfl, rfl, rfl, rfl, rfl, trivial⟩⟩
         ·intro a w hM
          obtain ⟨y7689, rfl, hw, hf⟩ := hM
          replace hp := hq7691
          refine cC hf rfl (fun hb7706 => ?_) (fun hb7706 => ?_)
          ·replace hp := cond_t hb7706 hp
           refine wq <| wr <| oa hf rfl rfl fun a hf => oN <| ct <| wp_ret <| c_thenR <| c_blockR <| c_thenR <| c_thenR <| c_blockR <| c_thenR ?_
           have ho := oI hp
           subst ho
           replace hp := hq7485
           refine c_blockR <| c_thenR <| c_thenR <| c_blockR <| c_thenR ?_
           have ho := oI hp
           subst ho
           replace hp := hq5789
           refine c_thenR ?_
           replace hw : Ok E I2_7606 (F) w := hw.sub (sc (sc (sc sr)))
           have ho := oI hp
           subst ho
           exact b_ret1 hf Go.Proofs.Tryd.results11 rfl ⟨_, rfl, ⟨rfl, (hw.back (IH.le_trans (IH.le_trans (IH.le_trans (IH.le_trans (IH.le_trans (IH.le_trans hle720 hle2327) hle5790) hle6763) hle6774) hle7486) hle7610) sr)⟩⟩
          ·replace hp := cond_f hb7706 hp
           refine wp_skip <| ct <| wr <| om hf rfl rfl fun a hf => om hf rfl rfl fun a hf => om hf rfl rfl fun a hf => ?_
           obtain ⟨hg7707, hp⟩ := gS hp
           refine oR hf (rI (K := (ekI .i64)) hf el_70 rfl rfl (hR6772.rd hw) hg7707) rfl fun a hf => oR hf (r_loadH (K := (ekI .i64)) hf rfl ty_3 (hR6772.rd hw) hg7707 rfl (fun cs h => ekI_f0 h)) rfl fun a hf => ?_
           obtain ⟨hg7708, hp⟩ := gS hp
           refine oR hf (rI (K := ekB) hf el_77 rfl rfl (rR (K := ekB) hw (i := 2) rfl hRR7251) hg7708) rfl fun a hf => ?_
           obtain ⟨w, cs7710, hrun7709, hw, hRR7711⟩ := e_storeH (P := P) (K := ekB) hw hf (x := .tmp 105) (y := .const (Value.bool true)) rfl rfl ty_4 2 rfl hRR7251 hg7708 rfl (vs := [Value.bool true]) (oE rfl) rfl (oC rfl ones_nil) (Nat.le_of_eq (by rfl)) (x' := true) (whole_store rfl)
           replace hw : Ok E I2_7606 (.blk b7611 (.cells ⟨[.int .i64 y7601.kind_, .string y7601.path_, .bool y7601.has_, .string y7601.value_, .int .i64 y7601.mask_, rvv7607]⟩ 32 (0, 0)) :: .blk b2328 (.cells ⟨[rvv2322, rvv2324, .bool y2317.ok_]⟩ 37 (0, 0)) :: .row yv7248 4 1 m7249 cs7710 :: F) w := hw
           refine o_effU (hrun7709 ..) <| oN <| c_blockN <| ct <| wr <| om hf rfl rfl fun a hf => oR hf (r_add hf rfl rfl) rfl fun a hf => oa hf rfl rfl fun a hf => oN <| ct ?_
           replace hw : Ok E I2_7606 (.blk b2328 (.cells ⟨[rvv2322, rvv2324, .bool y2317.ok_]⟩ 37 (0, 0)) :: .row yv7248 4 1 m7249 cs7710 :: F) w := hw.sub (sc (scc (scc sr)))
           exact ih (y7247.set (gt y6765 y7252).toNat true, w64 (y7252 + 1)) _ _ ⟨I2_7606, yv7248, m7249, cs7710, (IH.le_trans hle7486 hle7610), hw, hf.to ⟨rfl, rfl, rfl, rfl, rfl, rfl, rfl, rfl, trivial⟩, hRR7711⟩ hp
        ·replace hp := cond_f hb7487 hp
         refine wp_exit <| c_thenE <| c_thenE <| c_exit <| ct ?_
         have ho := oI hp
         subst ho
         exact ⟨y7247, I7246, yv7248, m7249, cs7250, rfl, hle7486, hw, hf.to ⟨rfl, rfl, rfl, rfl, rfl, trivial⟩, hRR7251⟩
       ·intro a w hM
        obtain ⟨y7479, I7478, yv7480, m7481, cs7482, rfl, hle7712, hw, hf, hRR7483⟩ := hM
        replace hp := hq7485
        replace hG := hG.mono hle7712
        replace hR2 := hR2.mono hle7712
        replace hR716 := hR716.mono hle7712
        replace hR2323 := hR2323.mono hle7712
        replace hR2325 := hR2325.mono hle7712
        refine c_blockN <| ct <| wr <| om hf rfl rfl fun a hf => oR hf (r_add hf rfl rfl) rfl fun a hf => oa hf rfl rfl fun a hf => oN <| ct ?_
        exact ih (y7479, w64 (y3858 + 1)) _ _ ⟨I7478, yv7480, m7481, cs7482, (IH.le_trans (IH.le_trans (IH.le_trans hle5790 hle6763) hle6774) hle7712), hw, hf.to ⟨rfl, rfl, rfl, rfl, rfl, trivial⟩, hRR7483⟩ hp
    ·replace hp := cond_f hb5791 hp
     refine wp_exit <| c_thenE <| c_thenE <| c_exit <| ct ?_
     have ho := oI hp
     subst ho
     exact ⟨y3853, I3852, yv3854, m3855, cs3856, rfl, hle5790, hw, hf.to ⟨rfl, trivial⟩, hRR3857⟩
   ·intro a w hM
    obtain ⟨y5783, I5782, yv5784, m5785, cs5786, rfl, hle7714, hw, hf, hRR5787⟩ := hM
    replace hp := hq5789
    replace hG := hG.mono hle7714
    replace hR2323 := hR2323.mono hle7714
    replace hR2325 := hR2325.mono hle7714
    refine ct <| wq <| wq <| wr <| oa hf rfl rfl fun a hf => oN <| ct ?_
    obtain ⟨out7726, hp, hq7727⟩ := bS hp
    refine c_cutX (fun a w => (.inl ()) = out7726 ∧ Ok E I5782 (.blk b2328 (.cells ⟨[rvv2322, rvv2324, .bool y2317.ok_]⟩ 37 (0, 0)) :: .row yv5784 4 1 m5785 cs5786 :: F) w ∧ Fr 118 ([]) a) ?_ ?_
    ·refine wp_block <| c_loop <| c_fuel (law16_ProveAll.l2 y5783) out7726 (fun (y7722 : Int) a w => Ok E I5782 (.blk b2328 (.cells ⟨[rvv2322, rvv2324, .bool y2317.ok_]⟩ 37 (0, 0)) :: .row yv5784 4 1 m5785 cs5786 :: F) w ∧ Fr 118 ([(4, yv5784), (14, .int .i64 y7722)]) a) (fun _ => rfl) ?_ BIG 0 _ _ ⟨hw, hf.to ⟨rfl, rfl, trivial⟩⟩ hp
     intro k y7722 a w hI hp ih
     obtain ⟨hw, hf⟩ := hI
     rw [law16_ProveAll.l2] at hp
     refine wq <| wq <| wr <| om hf rfl rfl fun a hf => om hf rfl rfl fun a hf => oR hf (r_lenL (K := ekB) hf el_77 rfl (rR (K := ekB) hw (i := 1) rfl hRR5787)) rfl fun a hf => oR hf (iC hf rfl rfl rfl) rfl fun a hf => oN <| ct <| cC hf rfl (fun hb7729 => ?_) (fun hb7729 => ?_)
     ·replace hp := cond_t hb7729 hp
      refine wp_skip <| ct <| wq <| wp_block <| wq <| wr <| om hf rfl rfl fun a hf => om hf rfl rfl fun a hf => ?_
      obtain ⟨hg7730, hp⟩ := gS hp
      refine oR hf (rI (K := ekB) hf el_77 rfl rfl (rR (K := ekB) hw (i := 1) rfl hRR5787) hg7730) rfl fun a hf => oR hf (r_loadH (K := ekB) hf rfl ty_4 (rR (K := ekB) hw (i := 1) rfl hRR5787) hg7730 rfl (fun cs h => ekB_f0 h)) rfl fun a hf => oR hf (r_not hf rfl) rfl fun a hf => oN <| ct <| cC hf rfl (fun hb7731 => ?_) (fun hb7731 => ?_)
      ·replace hp := cond_t hb7731 hp
       refine wq <| wr <| oa hf rfl rfl fun a hf => oN <| ct <| wp_ret <| c_blockR <| c_thenR <| c_thenR <| c_blockR <| c_thenR ?_
       have ho := oI hp
       subst ho
       replace hp := hq7727
       refine c_thenR ?_
       replace hw : Ok E I5782 (F) w := hw.sub (sc (sc sr))
       have ho := oI hp
       subst ho
       exact b_ret1 hf Go.Proofs.Tryd.results11 rfl ⟨_, rfl, ⟨rfl, (hw.back (IH.le_trans (IH.le_trans hle720 hle2327) hle7714) sr)⟩⟩
      ·replace hp := cond_f hb7731 hp
       refine wp_skip <| c_blockN <| ct <| wr <| om hf rfl rfl fun a hf => oR hf (r_add hf rfl rfl) rfl fun a hf => oa hf rfl rfl fun a hf => oN <| ct ?_
       exact ih (w64 (y7722 + 1)) _ _ ⟨hw, hf.to ⟨rfl, rfl, trivial⟩⟩ hp
     ·replace hp := cond_f hb7729 hp
      refine wp_exit <| c_thenE <| c_thenE <| c_exit <| ct ?_
      have ho := oI hp
      subst ho
      exact ⟨rfl, hw, hf.to trivial⟩
    ·intro a w hM
     obtain ⟨rfl, hw, hf⟩ := hM
     replace hp := hq7727
     refine ct <| wq <| wr ?_
     obtain ⟨y7733, hy7734, hp⟩ := bS hp
     have hc7736 := law16_wakes_ok hw hG hy7734
     refine o_call hf cb_32 rfl rfl hc7736 (fun v7738 w a hK7737 hf => ?_)
     obtain ⟨rfl, hw⟩ := hK7737
     refine oa hf rfl rfl fun a hf => oN <| ct <| wp_ret ?_
     replace hw : Ok E I5782 (F) w := hw.sub (sc (sc sr))
     have ho := oI hp
     subst ho
     exact b_ret1 hf Go.Proofs.Tryd.results11 rfl ⟨_, rfl, ⟨rfl, (hw.back (IH.le_trans (IH.le_trans hle720 hle2327) hle7714) sr)⟩⟩
end Go.Lf
