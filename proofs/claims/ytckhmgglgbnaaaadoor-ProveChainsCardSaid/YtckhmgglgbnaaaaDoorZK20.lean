/- The Go functions compute the plain Lean functions (printed by our lift.py). -/
import Derived.Test.YtckhmgglgbnaaaaDoorZD
import Derived.Test.YtckhmgglgbnaaaaDoorZF
import Derived.Test.YtckhmgglgbnaaaaDoorJ
import Derived.Test.YtckhmgglgbnaaaaDoorZK0
import Derived.Test.YtckhmgglgbnaaaaDoorZK1
import Derived.Test.YtckhmgglgbnaaaaDoorZK9
import Derived.Test.YtckhmgglgbnaaaaDoorZK10
import Derived.Test.YtckhmgglgbnaaaaDoorZK18
import Derived.Test.YtckhmgglgbnaaaaDoorZK19
set_option linter.unusedVariables false
set_option linter.unusedSimpArgs false
set_option maxHeartbeats 1000000
set_option maxRecDepth 20000
namespace Go.Lf
open Go
theorem law16_ProveChains_ok {E : World} {I : IH} {F : List Atom} {w : World} {a0 : List Pair} {a0v1 : Value} {a1 : ByteArray} {res0 : Bool} (hw : Ok E I (F) w) (hG : Gl I) (hR2 : RS ek_Pair I a0v1 a0) (hp : law16_ProveChains.f a0 a1 = some res0) :
  Calls P 10 ⟨[a0v1, Value.string a1]⟩ w fun e w' => ∃ v, e = .returned v ∧ v = Value.bool res0 ∧ Ok E I (F) w' := by
 refine c_enter Go.Proofs.Tryd.func10 rfl Go.Proofs.Tryd.ntmps10 rfl fun a hf => ?_
 replace hf : Fr 111 [(0, a0v1), (1, .string a1)] a := hf
 unfold law16_ProveChains.f at hp
 refine wp_seq <| wp_region_lit <| oa hf rfl rfl fun a hf => o_nil <| c_then <| wp_seq ?_
 obtain ⟨out701, hp, hq702⟩ := bind_some hp
 refine c_cut (fun a w => ∃ y700 : Bool, y700 = out701 ∧ Ok E I (F) w ∧ Fr 111 ([(0, a0v1), (1, .string a1), (32, .bool y700)]) a) ?_ ?_
 ·refine wp_region_lit <| om hf rfl rfl fun a hf => ?_
  obtain ⟨y703, hy704, hp⟩ := bind_some hp
  have hc706 := keep_LongPairs_ok hw hG hR2 hy704
  refine o_call hf cb_24 rfl rfl hc706 (fun v708 w a hK707 hf => ?_)
  obtain ⟨rfl, hw⟩ := hK707
  refine om hf rfl rfl fun a hf => g_split hf (g := 18) rfl (fun hb709 hf => ?_) (fun hb709 hf => ?_)
  ·replace hp := cond_t hb709 hp
   refine o_skip hf (g := 18) rfl rfl rfl rfl rfl rfl fun a hf => o_skip hf (g := 18) rfl rfl rfl rfl rfl rfl fun a hf => o_skip hf (g := 18) rfl rfl rfl rfl rfl rfl fun a hf => o_run hf (r_pickT hf rfl rfl) rfl fun a hf => om hf rfl rfl fun a hf => o_skip hf (g := 23) rfl rfl rfl rfl rfl rfl fun a hf => o_skip hf (g := 23) rfl rfl rfl rfl rfl rfl fun a hf => o_skip hf (g := 23) rfl rfl rfl rfl rfl rfl fun a hf => o_run hf (r_pickT hf rfl rfl) rfl fun a hf => om hf rfl rfl fun a hf => ?_
   refine o_skip hf (g := 28) rfl rfl rfl rfl rfl rfl fun a hf => o_skip hf (g := 28) rfl rfl rfl rfl rfl rfl fun a hf => o_skip hf (g := 28) rfl rfl rfl rfl rfl rfl fun a hf => o_run hf (r_pickT hf rfl rfl) rfl fun a hf => o_nil <| c_then ?_
   have ho := out_inj hp
   subst ho
   exact ⟨true, rfl, hw, hf.to ⟨rfl, rfl, rfl, trivial⟩⟩
  ·replace hp := cond_f hb709 hp
   refine o_want hf (g := 18) rfl rfl <| om hf rfl rfl fun a hf => o_want hf (g := 18) rfl rfl ?_
   obtain ⟨y710, hy711, hp⟩ := bind_some hp
   have hc713 := ref10_May_ok hw hG hR2 hy711
   refine o_call hf cb_25 rfl rfl hc713 (fun v715 w a hK714 hf => ?_)
   obtain ⟨rfl, hw⟩ := hK714
   refine o_want hf (g := 18) rfl rfl <| o_run hf (r_not hf rfl) rfl fun a hf => o_run hf (r_pickF hf rfl rfl) rfl fun a hf => om hf rfl rfl fun a hf => g_split hf (g := 23) rfl (fun hb716 hf => ?_) (fun hb716 hf => ?_)
   ·replace hp := cond_t hb716 hp
    refine o_skip hf (g := 23) rfl rfl rfl rfl rfl rfl fun a hf => o_skip hf (g := 23) rfl rfl rfl rfl rfl rfl fun a hf => o_skip hf (g := 23) rfl rfl rfl rfl rfl rfl fun a hf => o_run hf (r_pickT hf rfl rfl) rfl fun a hf => om hf rfl rfl fun a hf => o_skip hf (g := 28) rfl rfl rfl rfl rfl rfl fun a hf => o_skip hf (g := 28) rfl rfl rfl rfl rfl rfl fun a hf => o_skip hf (g := 28) rfl rfl rfl rfl rfl rfl fun a hf => o_run hf (r_pickT hf rfl rfl) rfl fun a hf => o_nil ?_
    refine c_then ?_
    have ho := out_inj hp
    subst ho
    exact ⟨true, rfl, hw, hf.to ⟨rfl, rfl, rfl, trivial⟩⟩
   ·replace hp := cond_f hb716 hp
    refine o_want hf (g := 23) rfl rfl <| om hf rfl rfl fun a hf => o_want hf (g := 23) rfl rfl <| o_run hf (r_lenL (K := ek_Pair) hf el_45 rfl (hR2.rd hw)) rfl fun a hf => o_want hf (g := 23) rfl rfl <| o_run hf (r_icmp hf rfl rfl rfl) rfl fun a hf => o_run hf (r_pickF hf rfl rfl) rfl fun a hf => om hf rfl rfl fun a hf => g_split hf (g := 28) rfl (fun hb717 hf => ?_) (fun hb717 hf => ?_)
    ·replace hp := cond_t hb717 hp
     refine o_skip hf (g := 28) rfl rfl rfl rfl rfl rfl fun a hf => o_skip hf (g := 28) rfl rfl rfl rfl rfl rfl fun a hf => o_skip hf (g := 28) rfl rfl rfl rfl rfl rfl fun a hf => o_run hf (r_pickT hf rfl rfl) rfl fun a hf => o_nil <| c_then ?_
     have ho := out_inj hp
     subst ho
     exact ⟨true, rfl, hw, hf.to ⟨rfl, rfl, rfl, trivial⟩⟩
    ·replace hp := cond_f hb717 hp
     refine o_want hf (g := 28) rfl rfl <| om hf rfl rfl fun a hf => o_want hf (g := 28) rfl rfl ?_
     obtain ⟨y718, hy719, hp⟩ := bind_some hp
     have hc721 := ref12_Key_ok hw hG hy719
     refine o_call hf cb_35 rfl rfl hc721 (fun v723 w a hK722 hf => ?_)
     obtain ⟨rfl, hw⟩ := hK722
     refine o_want hf (g := 28) rfl rfl <| o_run hf (r_not hf rfl) rfl fun a hf => o_run hf (r_pickF hf rfl rfl) rfl fun a hf => o_nil <| c_then ?_
     have ho := out_inj hp
     subst ho
     exact ⟨(!y718), rfl, hw, hf.to ⟨rfl, rfl, rfl, trivial⟩⟩
 ·intro a w hM
  obtain ⟨y700, rfl, hw, hf⟩ := hM
  replace hp := hq702
  refine c_cond hf rfl (fun hb724 => ?_) (fun hb724 => ?_)
  ·replace hp := cond_t hb724 hp
   refine wp_seq <| wp_region_lit ?_
   obtain ⟨y725, hy726, hp⟩ := bind_some hp
   have hc728 := law16_wakes_ok hw hG hy726
   refine o_call hf cb_32 rfl rfl hc728 (fun v730 w a hK729 hf => ?_)
   obtain ⟨rfl, hw⟩ := hK729
   refine oa hf rfl rfl fun a hf => o_nil <| c_then <| wp_ret <| c_thenR ?_
   have ho := out_inj hp
   subst ho
   exact b_ret1 hf Go.Proofs.Tryd.results10 rfl ⟨_, rfl, ⟨rfl, hw⟩⟩
  ·replace hp := cond_f hb724 hp
   refine wp_skip <| c_then <| wp_seq <| wp_region_lit <| om hf rfl rfl fun a hf => ?_
   obtain ⟨y731, hy732, hp⟩ := bind_some hp
   have hc734 := ref10_Build_ok hw hG hR2 hy732
   refine o_call hf cb_26 rfl rfl hc734 (fun v740 w a hK735 hf => ?_)
   obtain ⟨I2_735, rvv736, rvv738, rfl, hle741, hw, hR737, hR739⟩ := hK735
   replace hG := hG.mono hle741
   replace hR2 := hR2.mono hle741
   refine o_run hf (r_field hf rfl fd_48_0 ty_23 rfl) rfl fun a hf => oa hf rfl rfl fun a hf => o_nil <| c_then <| wp_seq <| wp_region_lit <| om hf rfl rfl fun a hf => om hf rfl rfl fun a hf => ?_
   obtain ⟨y745, hy744, hp⟩ := bind_some hp
   obtain ⟨y742, y743⟩ := y745
   have hc746 := prove_Of_ok hw hG hR737 hy744
   refine o_call hf cb_33 rfl rfl hc746 (fun v750 w a hK747 hf => ?_)
   obtain ⟨I2_747, rvv748, rfl, hle751, hw, hR749⟩ := hK747
   replace hG := hG.mono hle751
   replace hR2 := hR2.mono hle751
   replace hR737 := hR737.mono hle751
   replace hR739 := hR739.mono hle751
   refine om hf rfl rfl fun a hf => o_run hf (r_extract hf rfl rfl) rfl fun a hf => o_run hf (r_extract hf rfl rfl) rfl fun a hf => oa hf rfl rfl fun a hf => oa hf rfl rfl fun a hf => o_nil <| c_then <| wp_seq ?_
   obtain ⟨out767, hp, hq768⟩ := bind_some hp
   refine c_cut (fun a w => ∃ y766 : Bool, y766 = out767 ∧ Ok E I2_747 (F) w ∧ Fr 111 ([(5, rvv736), (6, rvv748), (58, .bool y766)]) a) ?_ ?_
   ·refine wp_region_lit <| om hf rfl rfl fun a hf => o_run hf (r_icmp hf rfl rfl rfl) rfl fun a hf => om hf rfl rfl fun a hf => g_split hf (g := 45) rfl (fun hb769 hf => ?_) (fun hb769 hf => ?_)
    ·replace hp := cond_t hb769 hp
     refine o_skip hf (g := 45) rfl rfl rfl rfl rfl rfl fun a hf => o_skip hf (g := 45) rfl rfl rfl rfl rfl rfl fun a hf => o_skip hf (g := 45) rfl rfl rfl rfl rfl rfl fun a hf => o_skip hf (g := 45) rfl rfl rfl rfl rfl rfl fun a hf => o_skip hf (g := 45) rfl rfl rfl rfl rfl rfl fun a hf => o_skip hf (g := 45) rfl rfl rfl rfl rfl rfl fun a hf => o_skip hf (g := 45) rfl rfl rfl rfl rfl rfl fun a hf => o_run hf (r_pickT hf rfl rfl) rfl fun a hf => om hf rfl rfl fun a hf => o_skip hf (g := 54) rfl rfl rfl rfl rfl rfl fun a hf => ?_
     refine o_skip hf (g := 54) rfl rfl rfl rfl rfl rfl fun a hf => o_skip hf (g := 54) rfl rfl rfl rfl rfl rfl fun a hf => o_run hf (r_pickT hf rfl rfl) rfl fun a hf => o_nil <| c_then ?_
     have ho := out_inj hp
     subst ho
     exact ⟨true, rfl, hw, hf.to ⟨rfl, rfl, rfl, trivial⟩⟩
    ·replace hp := cond_f hb769 hp
     refine o_want hf (g := 45) rfl rfl <| om hf rfl rfl fun a hf => o_want hf (g := 45) rfl rfl <| o_run hf (r_lenL (K := ekS) hf el_28 rfl (hR749.rd hw)) rfl fun a hf => o_want hf (g := 45) rfl rfl <| o_run hf (r_icmp hf rfl rfl rfl) rfl fun a hf => o_want hf (g := 45) rfl rfl <| om hf rfl rfl fun a hf => o_want hf (g := 45) rfl rfl <| o_run hf (r_lenL (K := ek_Node) hf el_23 rfl (hR737.rd hw)) rfl fun a hf => ?_
     refine o_want hf (g := 45) rfl rfl <| o_run hf (r_icmp hf rfl rfl rfl) rfl fun a hf => o_want hf (g := 45) rfl rfl <| o_run hf (r_bne hf und_4 rfl rfl) rfl fun a hf => o_run hf (r_pickF hf rfl rfl) rfl fun a hf => om hf rfl rfl fun a hf => g_split hf (g := 54) rfl (fun hb770 hf => ?_) (fun hb770 hf => ?_)
     ·replace hp := cond_t hb770 hp
      refine o_skip hf (g := 54) rfl rfl rfl rfl rfl rfl fun a hf => o_skip hf (g := 54) rfl rfl rfl rfl rfl rfl fun a hf => o_skip hf (g := 54) rfl rfl rfl rfl rfl rfl fun a hf => o_run hf (r_pickT hf rfl rfl) rfl fun a hf => o_nil <| c_then ?_
      have ho := out_inj hp
      subst ho
      exact ⟨true, rfl, hw, hf.to ⟨rfl, rfl, rfl, trivial⟩⟩
     ·replace hp := cond_f hb770 hp
      refine o_want hf (g := 54) rfl rfl <| om hf rfl rfl fun a hf => o_want hf (g := 54) rfl rfl <| o_run hf (r_lenL (K := ekS) hf el_28 rfl (hR749.rd hw)) rfl fun a hf => o_want hf (g := 54) rfl rfl <| o_run hf (r_icmp hf rfl rfl rfl) rfl fun a hf => o_run hf (r_pickF hf rfl rfl) rfl fun a hf => o_nil <| c_then ?_
      have ho := out_inj hp
      subst ho
      exact ⟨(decide ((y742.length : Int) > 33)), rfl, hw, hf.to ⟨rfl, rfl, rfl, trivial⟩⟩
   ·intro a w hM
    obtain ⟨y766, rfl, hw, hf⟩ := hM
    replace hp := hq768
    refine c_cond hf rfl (fun hb771 => ?_) (fun hb771 => ?_)
    ·replace hp := cond_t hb771 hp
     refine wp_seq <| wp_region_lit <| oa hf rfl rfl fun a hf => o_nil <| c_then <| wp_ret <| c_thenR ?_
     have ho := out_inj hp
     subst ho
     exact b_ret1 hf Go.Proofs.Tryd.results10 rfl ⟨_, rfl, ⟨rfl, (hw.back (IH.le_trans hle741 hle751) sr)⟩⟩
    ·replace hp := cond_f hb771 hp
     refine wp_skip <| c_then <| wp_seq <| wp_region_lit <| om hf rfl rfl fun a hf => ?_
     obtain ⟨y32, hy33, hp⟩ := bind_some hp
     have hc35 := ref11_Root_ok hw hG hR737 hy33
     refine o_call hf cb_18 rfl rfl hc35 (fun v37 w a hK36 hf => ?_)
     obtain ⟨rfl, hw⟩ := hK36
     refine oa hf rfl rfl fun a hf => o_nil <| c_then <| wp_seq <| wp_region_lit <| oa hf rfl rfl fun a hf => o_nil <| c_then <| wp_seq <| wp_seq ?_
     refine wp_region_lit <| oa hf rfl rfl fun a hf => o_nil <| c_then ?_
     obtain ⟨out657, hp, hq658⟩ := bind_some hp
     refine c_cutX (fun a w => ∃ I656 : IH, (.inl ()) = out657 ∧ IH.le I2_747 I656 ∧ Ok E I656 (F) w ∧ Fr 111 ([]) a) ?_ ?_
     ·refine wp_block <| c_loop <| c_fuel (law16_ProveChains.l0 y742 y32) out657 (fun (y469, y470) a w => ∃ I468 : IH, ∃ yv471 : Value, IH.le I2_747 I468 ∧ Ok E I468 (F) w ∧ Fr 111 ([(6, rvv748), (8, .string y32), (9, yv471), (10, .int .i64 y469)]) a ∧ RS ekS I468 yv471 y470) (fun _ => rfl) ?_ BIG (0, ([] : List ByteArray)) _ _ ⟨I2_747, (.slice none 0 0), (IH.le_refl _), hw, hf.to ⟨rfl, rfl, rfl, rfl, trivial⟩, RS.nil⟩ hp
      intro k st a w hI hp ih
      obtain ⟨y469, y470⟩ := st
      obtain ⟨I468, yv471, hle659, hw, hf, hR472⟩ := hI
      rw [law16_ProveChains.l0] at hp
      replace hG := hG.mono hle659
      replace hR749 := hR749.mono hle659
      refine wp_seq <| wp_seq <| wp_region_lit <| om hf rfl rfl fun a hf => om hf rfl rfl fun a hf => o_run hf (r_lenL (K := ekS) hf el_28 rfl (hR749.rd hw)) rfl fun a hf => o_run hf (r_icmp hf rfl rfl rfl) rfl fun a hf => o_nil <| c_then <| c_cond hf rfl (fun hb660 => ?_) (fun hb660 => ?_)
      ·replace hp := cond_t hb660 hp
       refine wp_skip <| c_then <| wp_seq <| wp_block <| wp_seq <| wp_region_lit <| om hf rfl rfl fun a hf => om hf rfl rfl fun a hf => ?_
       obtain ⟨hg752, hp⟩ := gd_some hp
       refine o_run hf (r_indexAddr (K := ekS) hf el_28 rfl rfl (hR749.rd hw) hg752) rfl fun a hf => o_run hf (r_loadH (K := ekS) hf rfl ty_9 (hR749.rd hw) hg752 rfl (fun cs h => ekS_f0 h)) rfl fun a hf => ?_
       obtain ⟨y753, hy754, hp⟩ := bind_some hp
       have hc756 := digest_Of_ok hw hG hy754
       refine o_call hf cb_31 rfl rfl hc756 (fun v758 w a hK757 hf => ?_)
       obtain ⟨rfl, hw⟩ := hK757
       refine oa hf rfl rfl fun a hf => o_nil <| c_then ?_
       obtain ⟨out762, hp, hq763⟩ := bind_some hp
       refine c_cut (fun a w => ∃ y761 : Bool, y761 = out762 ∧ Ok E I468 (F) w ∧ Fr 111 ([(6, rvv748), (8, .string y32), (9, yv471), (10, .int .i64 y469), (11, .string y753), (12, .bool y761)]) a) ?_ ?_
       ·refine wp_region_lit <| om hf rfl rfl fun a hf => o_run hf (r_icmp hf rfl rfl rfl) rfl fun a hf => om hf rfl rfl fun a hf => g_split hf (g := 74) rfl (fun hb764 hf => ?_) (fun hb764 hf => ?_)
        ·replace hp := cond_t hb764 hp
         refine o_want hf (g := 74) rfl rfl <| om hf rfl rfl fun a hf => o_want hf (g := 74) rfl rfl <| om hf rfl rfl fun a hf => o_want hf (g := 74) rfl rfl <| o_run hf (r_scmp hf rfl rfl rfl) rfl fun a hf => o_run hf (r_pickT hf rfl rfl) rfl fun a hf => oa hf rfl rfl fun a hf => o_nil <| c_then ?_
         have ho := out_inj hp
         subst ho
         exact ⟨(seq_ y753 y32), rfl, hw, hf.to ⟨rfl, rfl, rfl, rfl, rfl, rfl, trivial⟩⟩
        ·replace hp := cond_f hb764 hp
         refine o_skip hf (g := 74) rfl rfl rfl rfl rfl rfl fun a hf => o_skip hf (g := 74) rfl rfl rfl rfl rfl rfl fun a hf => o_skip hf (g := 74) rfl rfl rfl rfl rfl rfl fun a hf => o_run hf (r_pickF hf rfl rfl) rfl fun a hf => oa hf rfl rfl fun a hf => o_nil <| c_then ?_
         have ho := out_inj hp
         subst ho
         exact ⟨false, rfl, hw, hf.to ⟨rfl, rfl, rfl, rfl, rfl, rfl, trivial⟩⟩
       ·intro a w hM
        obtain ⟨y761, rfl, hw, hf⟩ := hM
        replace hp := hq763
        refine wp_seq <| wp_seq <| wp_region_lit <| oa hf rfl rfl fun a hf => o_nil <| c_then ?_
        obtain ⟨out800, hp, hq801⟩ := bind_some hp
        refine c_cutX (fun a w => ∃ y799 : Bool, y799 = out800 ∧ Ok E I468 (F) w ∧ Fr 111 ([(6, rvv748), (8, .string y32), (10, .int .i64 y469), (12, .bool y799)]) a) ?_ ?_
        ·refine wp_block <| c_loop <| c_fuel (law16_ProveChains.l1 y470 y753) out800 (fun (y787, y788) a w => Ok E I468 (F) w ∧ Fr 111 ([(6, rvv748), (8, .string y32), (9, yv471), (10, .int .i64 y469), (11, .string y753), (12, .bool y787), (13, .int .i64 y788)]) a) (fun _ => rfl) ?_ BIG (y761, 0) _ _ ⟨hw, hf.to ⟨rfl, rfl, rfl, rfl, rfl, rfl, rfl, trivial⟩⟩ hp
         intro k st a w hI hp ih
         obtain ⟨y787, y788⟩ := st
         obtain ⟨hw, hf⟩ := hI
         rw [law16_ProveChains.l1] at hp
         refine wp_seq <| wp_seq <| wp_region_lit <| om hf rfl rfl fun a hf => om hf rfl rfl fun a hf => o_run hf (r_lenL (K := ekS) hf el_28 rfl (hR472.rd hw)) rfl fun a hf => o_run hf (r_icmp hf rfl rfl rfl) rfl fun a hf => o_nil <| c_then <| c_cond hf rfl (fun hb803 => ?_) (fun hb803 => ?_)
         ·replace hp := cond_t hb803 hp
          refine wp_skip <| c_then ?_
          obtain ⟨out809, hp, hq810⟩ := bind_some hp
          refine c_cut (fun a w => ∃ y808 : Bool, y808 = out809 ∧ Ok E I468 (F) w ∧ Fr 111 ([(6, rvv748), (8, .string y32), (9, yv471), (10, .int .i64 y469), (11, .string y753), (12, .bool y808), (13, .int .i64 y788)]) a) ?_ ?_
          ·refine wp_block <| wp_region_lit <| om hf rfl rfl fun a hf => om hf rfl rfl fun a hf => g_split hf (g := 86) rfl (fun hb811 hf => ?_) (fun hb811 hf => ?_)
           ·replace hp := cond_t hb811 hp
            refine o_skip hf (g := 86) rfl rfl rfl rfl rfl rfl fun a hf => o_skip hf (g := 86) rfl rfl rfl rfl rfl rfl fun a hf => o_skip hf (g := 86) rfl rfl rfl rfl rfl rfl fun a hf => o_skip hf (g := 86) rfl rfl rfl rfl rfl rfl fun a hf => o_skip hf (g := 86) rfl rfl rfl rfl rfl rfl fun a hf => o_skip hf (g := 86) rfl rfl rfl rfl rfl rfl fun a hf => o_run hf (r_pickT hf rfl rfl) rfl fun a hf => oa hf rfl rfl fun a hf => o_nil <| c_blockN ?_
            refine c_then ?_
            have ho := out_inj hp
            subst ho
            exact ⟨true, rfl, hw, hf.to ⟨rfl, rfl, rfl, rfl, rfl, rfl, rfl, trivial⟩⟩
           ·replace hp := cond_f hb811 hp
            refine o_want hf (g := 86) rfl rfl <| om hf rfl rfl fun a hf => o_want hf (g := 86) rfl rfl <| om hf rfl rfl fun a hf => ?_
            obtain ⟨hg812, hp⟩ := gd_some hp
            refine o_want hf (g := 86) rfl rfl <| o_run hf (r_indexAddr (K := ekS) hf el_28 rfl rfl (hR472.rd hw) hg812) rfl fun a hf => o_want hf (g := 86) rfl rfl <| o_run hf (r_loadH (K := ekS) hf rfl ty_9 (hR472.rd hw) hg812 rfl (fun cs h => ekS_f0 h)) rfl fun a hf => o_want hf (g := 86) rfl rfl <| om hf rfl rfl fun a hf => o_want hf (g := 86) rfl rfl <| o_run hf (r_scmp hf rfl rfl rfl) rfl fun a hf => o_run hf (r_pickF hf rfl rfl) rfl fun a hf => oa hf rfl rfl fun a hf => ?_
            refine o_nil <| c_blockN <| c_then ?_
            have ho := out_inj hp
            subst ho
            exact ⟨(seq_ (gt y470 y788) y753), rfl, hw, hf.to ⟨rfl, rfl, rfl, rfl, rfl, rfl, rfl, trivial⟩⟩
          ·intro a w hM
           obtain ⟨y808, rfl, hw, hf⟩ := hM
           replace hp := hq810
           refine wp_region_lit <| om hf rfl rfl fun a hf => o_run hf (r_add hf rfl rfl) rfl fun a hf => oa hf rfl rfl fun a hf => o_nil <| c_then ?_
           exact ih (y808, w64 (y788 + 1)) _ _ ⟨hw, hf.to ⟨rfl, rfl, rfl, rfl, rfl, rfl, rfl, trivial⟩⟩ hp
         ·replace hp := cond_f hb803 hp
          refine wp_exit <| c_thenE <| c_thenE <| c_exit <| c_then ?_
          have ho := out_inj hp
          subst ho
          exact ⟨y787, rfl, hw, hf.to ⟨rfl, rfl, rfl, rfl, trivial⟩⟩
        ·intro a w hM
         obtain ⟨y799, rfl, hw, hf⟩ := hM
         replace hp := hq801
         refine c_then <| wp_seq <| wp_region_lit <| om hf rfl rfl fun a hf => om hf rfl rfl fun a hf => ?_
         obtain ⟨hg814, hp⟩ := gd_some hp
         refine o_run hf (r_indexAddr (K := ekS) hf el_28 rfl rfl (hR749.rd hw) hg814) rfl fun a hf => o_run hf (r_loadH (K := ekS) hf rfl ty_9 (hR749.rd hw) hg814 rfl (fun cs h => ekS_f0 h)) rfl fun a hf => ?_
         obtain ⟨y818, hy817, hp⟩ := bind_some hp
         obtain ⟨y815, y816⟩ := y818
         have hc819 := node_Decode_ok hw hG hy817
         refine o_call hf cb_38 rfl rfl hc819 (fun v823 w a hK820 hf => ?_)
         obtain ⟨I2_820, rvv821, rfl, hle824, hw, hR822⟩ := hK820
         replace hG := hG.mono hle824
         replace hR749 := hR749.mono hle824
         refine om hf rfl rfl fun a hf => o_run hf (r_extract hf rfl rfl) rfl fun a hf => o_run hf (r_extract hf rfl rfl) rfl fun a hf => ?_
         obtain ⟨b825, w, hrun826, hw⟩ := e_alloc (P := P) (a := a) hw ty_32
         replace hw : Ok E I2_820 (.blk b825 (.cells ⟨[.int .i64 0, .string (⟨#[]⟩ : ByteArray), .bool false, .string (⟨#[]⟩ : ByteArray), .int .i64 0, .slice none 0 0]⟩ 32 (0, 0)) :: F) w := hw
         refine o_eff hf (hrun826 ..) rfl fun a hf => ?_
         obtain ⟨w, hrun828, hw⟩ := e_store (P := P) hw hf (x := .tmp 14) (y := .tmp 100) rfl rfl ty_32 0 rfl (vs := [Value.int .i64 y815.kind_, Value.string y815.path_, Value.bool y815.has_, Value.string y815.value_, Value.int .i64 y815.mask_, rvv821]) rfl rfl (ones_cons rfl (ones_cons rfl (ones_cons rfl (ones_cons rfl (ones_cons rfl (ones_cons hR822.one ones_nil)))))) (by simp [arrC_len]) (cs' := [Value.int .i64 y815.kind_, Value.string y815.path_, Value.bool y815.has_, Value.string y815.value_, Value.int .i64 y815.mask_, rvv821]) rfl
         replace hw : Ok E I2_820 (.blk b825 (.cells ⟨[.int .i64 y815.kind_, .string y815.path_, .bool y815.has_, .string y815.value_, .int .i64 y815.mask_, rvv821]⟩ 32 (0, 0)) :: F) w := hw
         refine o_effU (hrun828 ..) <| oa hf rfl rfl fun a hf => o_nil <| c_then <| wp_seq ?_
         obtain ⟨out839, hp, hq840⟩ := bind_some hp
         refine c_cut (fun a w => ∃ y838 : Bool, y838 = out839 ∧ Ok E I2_820 (.blk b825 (.cells ⟨[.int .i64 y815.kind_, .string y815.path_, .bool y815.has_, .string y815.value_, .int .i64 y815.mask_, rvv821]⟩ 32 (0, 0)) :: F) w ∧ Fr 111 ([(6, rvv748), (8, .string y32), (10, .int .i64 y469), (14, .pointer (some ⟨b825, 0, none⟩)), (107, .bool y838)]) a) ?_ ?_
         ·refine wp_region_lit <| om hf rfl rfl fun a hf => o_run hf (r_not hf rfl) rfl fun a hf => om hf rfl rfl fun a hf => g_split hf (g := 104) rfl (fun hb841 hf => ?_) (fun hb841 hf => ?_)
          ·replace hp := cond_t hb841 hp
           refine o_skip hf (g := 104) rfl rfl rfl rfl rfl rfl fun a hf => o_skip hf (g := 104) rfl rfl rfl rfl rfl rfl fun a hf => o_run hf (r_pickT hf rfl rfl) rfl fun a hf => o_nil <| c_then ?_
           have ho := out_inj hp
           subst ho
           exact ⟨true, rfl, hw, hf.to ⟨rfl, rfl, rfl, rfl, rfl, trivial⟩⟩
          ·replace hp := cond_f hb841 hp
           refine o_want hf (g := 104) rfl rfl <| om hf rfl rfl fun a hf => o_want hf (g := 104) rfl rfl <| o_run hf (r_not hf rfl) rfl fun a hf => o_run hf (r_pickF hf rfl rfl) rfl fun a hf => o_nil <| c_then ?_
           have ho := out_inj hp
           subst ho
           exact ⟨(!y816), rfl, hw, hf.to ⟨rfl, rfl, rfl, rfl, rfl, trivial⟩⟩
         ·intro a w hM
          obtain ⟨y838, rfl, hw, hf⟩ := hM
          replace hp := hq840
          refine c_cond hf rfl (fun hb842 => ?_) (fun hb842 => ?_)
          ·replace hp := cond_t hb842 hp
           refine wp_seq <| wp_region_lit <| oa hf rfl rfl fun a hf => o_nil <| c_then <| wp_ret <| c_thenR <| c_blockR <| c_thenR <| c_thenR ?_
           refine c_blockR <| c_thenR ?_
           have ho := out_inj hp
           subst ho
           replace hp := hq658
           refine c_thenR ?_
           replace hw : Ok E I2_820 (F) w := hw.sub (sc sr)
           have ho := out_inj hp
           subst ho
           exact b_ret1 hf Go.Proofs.Tryd.results10 rfl ⟨_, rfl, ⟨rfl, (hw.back (IH.le_trans (IH.le_trans (IH.le_trans hle741 hle751) hle659) hle824) sr)⟩⟩
          ·replace hp := cond_f hb842 hp
           refine wp_skip <| c_then <| wp_region_lit <| o_run hf (r_fieldAddr hf rfl fd_32_5) rfl fun a hf => o_run hf (r_load hw hf rfl ty_28 0 rfl rfl) rfl fun a hf => oa hf rfl rfl fun a hf => o_nil <| c_blockN <| c_then <| wp_region_lit ?_
           refine om hf rfl rfl fun a hf => o_run hf (r_add hf rfl rfl) rfl fun a hf => oa hf rfl rfl fun a hf => o_nil <| c_then ?_
           replace hw : Ok E I2_820 (F) w := hw.sub (sc sr)
           exact ih (w64 (y469 + 1), y815.hashes_) _ _ ⟨I2_820, rvv821, (IH.le_trans hle659 hle824), hw, hf.to ⟨rfl, rfl, rfl, rfl, trivial⟩, hR822⟩ hp
      ·replace hp := cond_f hb660 hp
       refine wp_exit <| c_thenE <| c_thenE <| c_exit <| c_then ?_
       have ho := out_inj hp
       subst ho
       exact ⟨I468, rfl, hle659, hw, hf.to trivial⟩
     ·intro a w hM
      obtain ⟨I656, rfl, hle843, hw, hf⟩ := hM
      replace hp := hq658
      replace hG := hG.mono hle843
      refine c_then <| wp_seq <| wp_region_lit ?_
      obtain ⟨y844, hy845, hp⟩ := bind_some hp
      have hc847 := law16_wakes_ok hw hG hy845
      refine o_call hf cb_32 rfl rfl hc847 (fun v849 w a hK848 hf => ?_)
      obtain ⟨rfl, hw⟩ := hK848
      refine oa hf rfl rfl fun a hf => o_nil <| c_then <| wp_ret ?_
      have ho := out_inj hp
      subst ho
      exact b_ret1 hf Go.Proofs.Tryd.results10 rfl ⟨_, rfl, ⟨rfl, (hw.back (IH.le_trans (IH.le_trans hle741 hle751) hle843) sr)⟩⟩
end Go.Lf
