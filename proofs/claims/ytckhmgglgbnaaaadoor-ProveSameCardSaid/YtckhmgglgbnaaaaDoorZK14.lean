/- The Go functions compute the plain Lean functions (printed by our lift.py). -/
import Derived.Test.YtckhmgglgbnaaaaDoorZD
import Derived.Test.YtckhmgglgbnaaaaDoorZF
import Derived.Test.YtckhmgglgbnaaaaDoorJ
import Derived.Test.YtckhmgglgbnaaaaDoorZK0
import Derived.Test.YtckhmgglgbnaaaaDoorZK1
import Derived.Test.YtckhmgglgbnaaaaDoorZK10
import Derived.Test.YtckhmgglgbnaaaaDoorZK13
set_option linter.unusedVariables false
set_option linter.unusedSimpArgs false
namespace Go.Lf
open Go
set_option maxHeartbeats 1000000 in
set_option maxRecDepth 20000 in
theorem law16_ProveSame_ok {E : World} {I : IH} {F : List Atom} {w : World} {a0 : List Pair} {a0v1 : Value} {a1 : ByteArray} {a2 : ByteArray} {res0 : Bool} (hw : Ok E I (F) w) (hG : Gl I) (hR2 : RS ek_Pair I a0v1 a0) (hp : law16_ProveSame.f a0 a1 a2 = some res0) :
    Calls P 9 ⟨[a0v1, Value.string a1, Value.string a2]⟩ w fun e w' => ∃ v, e = .returned v ∧ v = Value.bool res0 ∧ Ok E I (F) w' := by
  refine c_enter Go.Proofs.Tryd.func9 rfl Go.Proofs.Tryd.ntmps9 rfl fun a hf => ?_
  replace hf : Fr 131 [(0, a0v1), (1, Value.string a1), (2, Value.string a2)] a := hf
  unfold law16_ProveSame.f at hp
  refine wp_seq ?_
  refine wp_region_lit ?_
  refine o_run hf (r_assign hf rfl) rfl fun a hf => ?_
  refine o_nil ?_
  refine c_then ?_
  refine wp_seq ?_
  obtain ⟨out715, hp, hq716⟩ := bind_some hp
  refine c_cut (fun a w => ∃ y714 : Bool, y714 = out715 ∧ Ok E I (F) w ∧ Fr 131 ([(0, a0v1), (1, Value.string a1), (2, Value.string a2), (38, Value.bool y714)]) a) ?_ ?_
  · refine wp_region_lit ?_
    refine o_run hf (r_move hf rfl) rfl fun a hf => ?_
    obtain ⟨y717, hy718, hp⟩ := bind_some hp
    have hc720 := keep_LongPairs_ok hw hG hR2 hy718
    refine o_call hf cb_24 rfl rfl hc720 (fun v722 w a hK721 hf => ?_)
    obtain ⟨rfl, hw⟩ := hK721
    refine o_run hf (r_move hf rfl) rfl fun a hf => ?_
    refine g_split hf (g := 19) rfl (fun hb723 hf => ?_) (fun hb723 hf => ?_)
    · replace hp := cond_t hb723 hp
      refine o_skip hf (g := 19) rfl rfl rfl rfl rfl rfl fun a hf => ?_
      refine o_skip hf (g := 19) rfl rfl rfl rfl rfl rfl fun a hf => ?_
      refine o_skip hf (g := 19) rfl rfl rfl rfl rfl rfl fun a hf => ?_
      refine o_run hf (r_pickT hf rfl rfl) rfl fun a hf => ?_
      refine o_run hf (r_move hf rfl) rfl fun a hf => ?_
      refine o_skip hf (g := 24) rfl rfl rfl rfl rfl rfl fun a hf => ?_
      refine o_skip hf (g := 24) rfl rfl rfl rfl rfl rfl fun a hf => ?_
      refine o_skip hf (g := 24) rfl rfl rfl rfl rfl rfl fun a hf => ?_
      refine o_run hf (r_pickT hf rfl rfl) rfl fun a hf => ?_
      refine o_run hf (r_move hf rfl) rfl fun a hf => ?_
      refine o_skip hf (g := 29) rfl rfl rfl rfl rfl rfl fun a hf => ?_
      refine o_skip hf (g := 29) rfl rfl rfl rfl rfl rfl fun a hf => ?_
      refine o_skip hf (g := 29) rfl rfl rfl rfl rfl rfl fun a hf => ?_
      refine o_run hf (r_pickT hf rfl rfl) rfl fun a hf => ?_
      refine o_run hf (r_move hf rfl) rfl fun a hf => ?_
      refine o_skip hf (g := 34) rfl rfl rfl rfl rfl rfl fun a hf => ?_
      refine o_skip hf (g := 34) rfl rfl rfl rfl rfl rfl fun a hf => ?_
      refine o_skip hf (g := 34) rfl rfl rfl rfl rfl rfl fun a hf => ?_
      refine o_run hf (r_pickT hf rfl rfl) rfl fun a hf => ?_
      refine o_nil ?_
      refine c_then ?_
      have ho := out_inj hp
      subst ho
      exact ⟨true, rfl, hw, hf.to ⟨rfl, rfl, rfl, rfl, trivial⟩⟩
    · replace hp := cond_f hb723 hp
      refine o_want hf (g := 19) rfl rfl ?_
      refine o_run hf (r_move hf rfl) rfl fun a hf => ?_
      refine o_want hf (g := 19) rfl rfl ?_
      obtain ⟨y724, hy725, hp⟩ := bind_some hp
      have hc727 := ref10_May_ok hw hG hR2 hy725
      refine o_call hf cb_25 rfl rfl hc727 (fun v729 w a hK728 hf => ?_)
      obtain ⟨rfl, hw⟩ := hK728
      refine o_want hf (g := 19) rfl rfl ?_
      refine o_run hf (r_not hf rfl) rfl fun a hf => ?_
      refine o_run hf (r_pickF hf rfl rfl) rfl fun a hf => ?_
      refine o_run hf (r_move hf rfl) rfl fun a hf => ?_
      refine g_split hf (g := 24) rfl (fun hb730 hf => ?_) (fun hb730 hf => ?_)
      · replace hp := cond_t hb730 hp
        refine o_skip hf (g := 24) rfl rfl rfl rfl rfl rfl fun a hf => ?_
        refine o_skip hf (g := 24) rfl rfl rfl rfl rfl rfl fun a hf => ?_
        refine o_skip hf (g := 24) rfl rfl rfl rfl rfl rfl fun a hf => ?_
        refine o_run hf (r_pickT hf rfl rfl) rfl fun a hf => ?_
        refine o_run hf (r_move hf rfl) rfl fun a hf => ?_
        refine o_skip hf (g := 29) rfl rfl rfl rfl rfl rfl fun a hf => ?_
        refine o_skip hf (g := 29) rfl rfl rfl rfl rfl rfl fun a hf => ?_
        refine o_skip hf (g := 29) rfl rfl rfl rfl rfl rfl fun a hf => ?_
        refine o_run hf (r_pickT hf rfl rfl) rfl fun a hf => ?_
        refine o_run hf (r_move hf rfl) rfl fun a hf => ?_
        refine o_skip hf (g := 34) rfl rfl rfl rfl rfl rfl fun a hf => ?_
        refine o_skip hf (g := 34) rfl rfl rfl rfl rfl rfl fun a hf => ?_
        refine o_skip hf (g := 34) rfl rfl rfl rfl rfl rfl fun a hf => ?_
        refine o_run hf (r_pickT hf rfl rfl) rfl fun a hf => ?_
        refine o_nil ?_
        refine c_then ?_
        have ho := out_inj hp
        subst ho
        exact ⟨true, rfl, hw, hf.to ⟨rfl, rfl, rfl, rfl, trivial⟩⟩
      · replace hp := cond_f hb730 hp
        refine o_want hf (g := 24) rfl rfl ?_
        refine o_run hf (r_move hf rfl) rfl fun a hf => ?_
        refine o_want hf (g := 24) rfl rfl ?_
        refine o_run hf (r_lenL (K := ek_Pair) hf el_45 rfl (hR2.rd hw)) rfl fun a hf => ?_
        refine o_want hf (g := 24) rfl rfl ?_
        refine o_run hf (r_icmp hf rfl rfl rfl) rfl fun a hf => ?_
        refine o_run hf (r_pickF hf rfl rfl) rfl fun a hf => ?_
        refine o_run hf (r_move hf rfl) rfl fun a hf => ?_
        refine g_split hf (g := 29) rfl (fun hb731 hf => ?_) (fun hb731 hf => ?_)
        · replace hp := cond_t hb731 hp
          refine o_skip hf (g := 29) rfl rfl rfl rfl rfl rfl fun a hf => ?_
          refine o_skip hf (g := 29) rfl rfl rfl rfl rfl rfl fun a hf => ?_
          refine o_skip hf (g := 29) rfl rfl rfl rfl rfl rfl fun a hf => ?_
          refine o_run hf (r_pickT hf rfl rfl) rfl fun a hf => ?_
          refine o_run hf (r_move hf rfl) rfl fun a hf => ?_
          refine o_skip hf (g := 34) rfl rfl rfl rfl rfl rfl fun a hf => ?_
          refine o_skip hf (g := 34) rfl rfl rfl rfl rfl rfl fun a hf => ?_
          refine o_skip hf (g := 34) rfl rfl rfl rfl rfl rfl fun a hf => ?_
          refine o_run hf (r_pickT hf rfl rfl) rfl fun a hf => ?_
          refine o_nil ?_
          refine c_then ?_
          have ho := out_inj hp
          subst ho
          exact ⟨true, rfl, hw, hf.to ⟨rfl, rfl, rfl, rfl, trivial⟩⟩
        · replace hp := cond_f hb731 hp
          refine o_want hf (g := 29) rfl rfl ?_
          refine o_run hf (r_move hf rfl) rfl fun a hf => ?_
          refine o_want hf (g := 29) rfl rfl ?_
          obtain ⟨y732, hy733, hp⟩ := bind_some hp
          have hc735 := ref12_Key_ok hw hG hy733
          refine o_call hf cb_35 rfl rfl hc735 (fun v737 w a hK736 hf => ?_)
          obtain ⟨rfl, hw⟩ := hK736
          refine o_want hf (g := 29) rfl rfl ?_
          refine o_run hf (r_not hf rfl) rfl fun a hf => ?_
          refine o_run hf (r_pickF hf rfl rfl) rfl fun a hf => ?_
          refine o_run hf (r_move hf rfl) rfl fun a hf => ?_
          refine g_split hf (g := 34) rfl (fun hb738 hf => ?_) (fun hb738 hf => ?_)
          · replace hp := cond_t hb738 hp
            refine o_skip hf (g := 34) rfl rfl rfl rfl rfl rfl fun a hf => ?_
            refine o_skip hf (g := 34) rfl rfl rfl rfl rfl rfl fun a hf => ?_
            refine o_skip hf (g := 34) rfl rfl rfl rfl rfl rfl fun a hf => ?_
            refine o_run hf (r_pickT hf rfl rfl) rfl fun a hf => ?_
            refine o_nil ?_
            refine c_then ?_
            have ho := out_inj hp
            subst ho
            exact ⟨true, rfl, hw, hf.to ⟨rfl, rfl, rfl, rfl, trivial⟩⟩
          · replace hp := cond_f hb738 hp
            refine o_want hf (g := 34) rfl rfl ?_
            refine o_run hf (r_move hf rfl) rfl fun a hf => ?_
            refine o_want hf (g := 34) rfl rfl ?_
            obtain ⟨y739, hy740, hp⟩ := bind_some hp
            have hc742 := ref12_Key_ok hw hG hy740
            refine o_call hf cb_35 rfl rfl hc742 (fun v744 w a hK743 hf => ?_)
            obtain ⟨rfl, hw⟩ := hK743
            refine o_want hf (g := 34) rfl rfl ?_
            refine o_run hf (r_not hf rfl) rfl fun a hf => ?_
            refine o_run hf (r_pickF hf rfl rfl) rfl fun a hf => ?_
            refine o_nil ?_
            refine c_then ?_
            have ho := out_inj hp
            subst ho
            exact ⟨(!y739), rfl, hw, hf.to ⟨rfl, rfl, rfl, rfl, trivial⟩⟩
  · intro a w hM
    obtain ⟨y714, rfl, hw, hf⟩ := hM
    replace hp := hq716
    refine c_cond hf rfl (fun hb745 => ?_) (fun hb745 => ?_)
    · replace hp := cond_t hb745 hp
      refine wp_seq ?_
      refine wp_region_lit ?_
      obtain ⟨y746, hy747, hp⟩ := bind_some hp
      have hc749 := law16_wakes_ok hw hG hy747
      refine o_call hf cb_32 rfl rfl hc749 (fun v751 w a hK750 hf => ?_)
      obtain ⟨rfl, hw⟩ := hK750
      refine o_run hf (r_assign hf rfl) rfl fun a hf => ?_
      refine o_nil ?_
      refine c_then ?_
      refine wp_ret ?_
      refine c_thenR ?_
      have ho := out_inj hp
      subst ho
      exact b_ret1 hf Go.Proofs.Tryd.results9 rfl ⟨_, rfl, ⟨rfl, hw⟩⟩
    · replace hp := cond_f hb745 hp
      refine wp_skip ?_
      refine c_then ?_
      refine wp_seq ?_
      refine wp_region_lit ?_
      refine o_run hf (r_move hf rfl) rfl fun a hf => ?_
      obtain ⟨y752, hy753, hp⟩ := bind_some hp
      have hc755 := ref10_Build_ok hw hG hR2 hy753
      refine o_call hf cb_26 rfl rfl hc755 (fun v761 w a hK756 hf => ?_)
      obtain ⟨I2_756, rvv757, rvv759, rfl, hle762, hw, hR758, hR760⟩ := hK756
      replace hG := hG.mono hle762
      replace hR2 := hR2.mono hle762
      refine o_run hf (r_field hf rfl fd_48_0 ty_23 rfl) rfl fun a hf => ?_
      refine o_run hf (r_assign hf rfl) rfl fun a hf => ?_
      refine o_nil ?_
      refine c_then ?_
      refine wp_seq ?_
      refine wp_region_lit ?_
      refine o_run hf (r_move hf rfl) rfl fun a hf => ?_
      refine o_run hf (r_move hf rfl) rfl fun a hf => ?_
      obtain ⟨y766, hy765, hp⟩ := bind_some hp
      obtain ⟨y763, y764⟩ := y766
      have hc767 := prove_Of_ok hw hG hR758 hy765
      refine o_call hf cb_33 rfl rfl hc767 (fun v771 w a hK768 hf => ?_)
      obtain ⟨I2_768, rvv769, rfl, hle772, hw, hR770⟩ := hK768
      replace hG := hG.mono hle772
      replace hR2 := hR2.mono hle772
      replace hR758 := hR758.mono hle772
      replace hR760 := hR760.mono hle772
      refine o_run hf (r_move hf rfl) rfl fun a hf => ?_
      refine o_run hf (r_extract hf rfl rfl) rfl fun a hf => ?_
      refine o_run hf (r_extract hf rfl rfl) rfl fun a hf => ?_
      refine o_run hf (r_assign hf rfl) rfl fun a hf => ?_
      refine o_run hf (r_assign hf rfl) rfl fun a hf => ?_
      refine o_nil ?_
      refine c_then ?_
      refine wp_seq ?_
      refine wp_region_lit ?_
      refine o_run hf (r_move hf rfl) rfl fun a hf => ?_
      refine o_run hf (r_move hf rfl) rfl fun a hf => ?_
      obtain ⟨y776, hy775, hp⟩ := bind_some hp
      obtain ⟨y773, y774⟩ := y776
      have hc777 := prove_Of_ok hw hG hR758 hy775
      refine o_call hf cb_33 rfl rfl hc777 (fun v781 w a hK778 hf => ?_)
      obtain ⟨I2_778, rvv779, rfl, hle782, hw, hR780⟩ := hK778
      replace hG := hG.mono hle782
      replace hR2 := hR2.mono hle782
      replace hR758 := hR758.mono hle782
      replace hR760 := hR760.mono hle782
      replace hR770 := hR770.mono hle782
      refine o_run hf (r_move hf rfl) rfl fun a hf => ?_
      refine o_run hf (r_extract hf rfl rfl) rfl fun a hf => ?_
      refine o_run hf (r_extract hf rfl rfl) rfl fun a hf => ?_
      refine o_run hf (r_assign hf rfl) rfl fun a hf => ?_
      refine o_run hf (r_assign hf rfl) rfl fun a hf => ?_
      refine o_nil ?_
      refine c_then ?_
      refine wp_seq ?_
      refine wp_region_lit ?_
      refine o_run hf (r_move hf rfl) rfl fun a hf => ?_
      refine o_run hf (r_move hf rfl) rfl fun a hf => ?_
      obtain ⟨y854, hy853, hp⟩ := bind_some hp
      obtain ⟨y851, y852⟩ := y854
      have hc855 := ref12_Walk_ok hw hG hR758 hy853
      refine o_call hf cb_36 rfl rfl hc855 (fun v859 w a hK856 hf => ?_)
      obtain ⟨I2_856, rvv857, rfl, hle860, hw, hR858⟩ := hK856
      replace hG := hG.mono hle860
      replace hR2 := hR2.mono hle860
      replace hR758 := hR758.mono hle860
      replace hR760 := hR760.mono hle860
      replace hR770 := hR770.mono hle860
      replace hR780 := hR780.mono hle860
      refine o_run hf (r_move hf rfl) rfl fun a hf => ?_
      refine o_run hf (r_extract hf rfl rfl) rfl fun a hf => ?_
      refine o_run hf (r_extract hf rfl rfl) rfl fun a hf => ?_
      refine o_run hf (r_assign hf rfl) rfl fun a hf => ?_
      refine o_run hf (r_assign hf rfl) rfl fun a hf => ?_
      refine o_nil ?_
      refine c_then ?_
      refine wp_seq ?_
      refine wp_region_lit ?_
      refine o_run hf (r_move hf rfl) rfl fun a hf => ?_
      refine o_run hf (r_move hf rfl) rfl fun a hf => ?_
      obtain ⟨y864, hy863, hp⟩ := bind_some hp
      obtain ⟨y861, y862⟩ := y864
      have hc865 := ref12_Walk_ok hw hG hR758 hy863
      refine o_call hf cb_36 rfl rfl hc865 (fun v869 w a hK866 hf => ?_)
      obtain ⟨I2_866, rvv867, rfl, hle870, hw, hR868⟩ := hK866
      replace hG := hG.mono hle870
      replace hR2 := hR2.mono hle870
      replace hR758 := hR758.mono hle870
      replace hR760 := hR760.mono hle870
      replace hR770 := hR770.mono hle870
      replace hR780 := hR780.mono hle870
      replace hR858 := hR858.mono hle870
      refine o_run hf (r_move hf rfl) rfl fun a hf => ?_
      refine o_run hf (r_extract hf rfl rfl) rfl fun a hf => ?_
      refine o_run hf (r_extract hf rfl rfl) rfl fun a hf => ?_
      refine o_run hf (r_assign hf rfl) rfl fun a hf => ?_
      refine o_run hf (r_assign hf rfl) rfl fun a hf => ?_
      refine o_nil ?_
      refine c_then ?_
      refine wp_seq ?_
      obtain ⟨out891, hp, hq892⟩ := bind_some hp
      refine c_cut (fun a w => ∃ y890 : Bool, y890 = out891 ∧ Ok E I2_866 (F) w ∧ Fr 131 ([(8, rvv769), (10, rvv779), (12, rvv857), (14, rvv867), (86, Value.bool y890)]) a) ?_ ?_
      · refine wp_region_lit ?_
        refine o_run hf (r_move hf rfl) rfl fun a hf => ?_
        refine o_run hf (r_icmp hf rfl rfl rfl) rfl fun a hf => ?_
        refine o_run hf (r_move hf rfl) rfl fun a hf => ?_
        refine g_split hf (g := 69) rfl (fun hb893 hf => ?_) (fun hb893 hf => ?_)
        · replace hp := cond_t hb893 hp
          refine o_skip hf (g := 69) rfl rfl rfl rfl rfl rfl fun a hf => ?_
          refine o_skip hf (g := 69) rfl rfl rfl rfl rfl rfl fun a hf => ?_
          refine o_run hf (r_pickT hf rfl rfl) rfl fun a hf => ?_
          refine o_run hf (r_move hf rfl) rfl fun a hf => ?_
          refine o_skip hf (g := 73) rfl rfl rfl rfl rfl rfl fun a hf => ?_
          refine o_skip hf (g := 73) rfl rfl rfl rfl rfl rfl fun a hf => ?_
          refine o_skip hf (g := 73) rfl rfl rfl rfl rfl rfl fun a hf => ?_
          refine o_skip hf (g := 73) rfl rfl rfl rfl rfl rfl fun a hf => ?_
          refine o_skip hf (g := 73) rfl rfl rfl rfl rfl rfl fun a hf => ?_
          refine o_run hf (r_pickT hf rfl rfl) rfl fun a hf => ?_
          refine o_run hf (r_move hf rfl) rfl fun a hf => ?_
          refine o_skip hf (g := 80) rfl rfl rfl rfl rfl rfl fun a hf => ?_
          refine o_skip hf (g := 80) rfl rfl rfl rfl rfl rfl fun a hf => ?_
          refine o_skip hf (g := 80) rfl rfl rfl rfl rfl rfl fun a hf => ?_
          refine o_skip hf (g := 80) rfl rfl rfl rfl rfl rfl fun a hf => ?_
          refine o_skip hf (g := 80) rfl rfl rfl rfl rfl rfl fun a hf => ?_
          refine o_run hf (r_pickT hf rfl rfl) rfl fun a hf => ?_
          refine o_nil ?_
          refine c_then ?_
          have ho := out_inj hp
          subst ho
          exact ⟨true, rfl, hw, hf.to ⟨rfl, rfl, rfl, rfl, rfl, trivial⟩⟩
        · replace hp := cond_f hb893 hp
          refine o_want hf (g := 69) rfl rfl ?_
          refine o_run hf (r_move hf rfl) rfl fun a hf => ?_
          refine o_want hf (g := 69) rfl rfl ?_
          refine o_run hf (r_icmp hf rfl rfl rfl) rfl fun a hf => ?_
          refine o_run hf (r_pickF hf rfl rfl) rfl fun a hf => ?_
          refine o_run hf (r_move hf rfl) rfl fun a hf => ?_
          refine g_split hf (g := 73) rfl (fun hb894 hf => ?_) (fun hb894 hf => ?_)
          · replace hp := cond_t hb894 hp
            refine o_skip hf (g := 73) rfl rfl rfl rfl rfl rfl fun a hf => ?_
            refine o_skip hf (g := 73) rfl rfl rfl rfl rfl rfl fun a hf => ?_
            refine o_skip hf (g := 73) rfl rfl rfl rfl rfl rfl fun a hf => ?_
            refine o_skip hf (g := 73) rfl rfl rfl rfl rfl rfl fun a hf => ?_
            refine o_skip hf (g := 73) rfl rfl rfl rfl rfl rfl fun a hf => ?_
            refine o_run hf (r_pickT hf rfl rfl) rfl fun a hf => ?_
            refine o_run hf (r_move hf rfl) rfl fun a hf => ?_
            refine o_skip hf (g := 80) rfl rfl rfl rfl rfl rfl fun a hf => ?_
            refine o_skip hf (g := 80) rfl rfl rfl rfl rfl rfl fun a hf => ?_
            refine o_skip hf (g := 80) rfl rfl rfl rfl rfl rfl fun a hf => ?_
            refine o_skip hf (g := 80) rfl rfl rfl rfl rfl rfl fun a hf => ?_
            refine o_skip hf (g := 80) rfl rfl rfl rfl rfl rfl fun a hf => ?_
            refine o_run hf (r_pickT hf rfl rfl) rfl fun a hf => ?_
            refine o_nil ?_
            refine c_then ?_
            have ho := out_inj hp
            subst ho
            exact ⟨true, rfl, hw, hf.to ⟨rfl, rfl, rfl, rfl, rfl, trivial⟩⟩
          · replace hp := cond_f hb894 hp
            refine o_want hf (g := 73) rfl rfl ?_
            refine o_run hf (r_move hf rfl) rfl fun a hf => ?_
            refine o_want hf (g := 73) rfl rfl ?_
            refine o_run hf (r_lenL (K := ekS) hf el_28 rfl (hR770.rd hw)) rfl fun a hf => ?_
            refine o_want hf (g := 73) rfl rfl ?_
            refine o_run hf (r_move hf rfl) rfl fun a hf => ?_
            refine o_want hf (g := 73) rfl rfl ?_
            refine o_run hf (r_lenL (K := (ekI .i64)) hf el_70 rfl (hR858.rd hw)) rfl fun a hf => ?_
            refine o_want hf (g := 73) rfl rfl ?_
            refine o_run hf (r_icmp hf rfl rfl rfl) rfl fun a hf => ?_
            refine o_run hf (r_pickF hf rfl rfl) rfl fun a hf => ?_
            refine o_run hf (r_move hf rfl) rfl fun a hf => ?_
            refine g_split hf (g := 80) rfl (fun hb895 hf => ?_) (fun hb895 hf => ?_)
            · replace hp := cond_t hb895 hp
              refine o_skip hf (g := 80) rfl rfl rfl rfl rfl rfl fun a hf => ?_
              refine o_skip hf (g := 80) rfl rfl rfl rfl rfl rfl fun a hf => ?_
              refine o_skip hf (g := 80) rfl rfl rfl rfl rfl rfl fun a hf => ?_
              refine o_skip hf (g := 80) rfl rfl rfl rfl rfl rfl fun a hf => ?_
              refine o_skip hf (g := 80) rfl rfl rfl rfl rfl rfl fun a hf => ?_
              refine o_run hf (r_pickT hf rfl rfl) rfl fun a hf => ?_
              refine o_nil ?_
              refine c_then ?_
              have ho := out_inj hp
              subst ho
              exact ⟨true, rfl, hw, hf.to ⟨rfl, rfl, rfl, rfl, rfl, trivial⟩⟩
            · replace hp := cond_f hb895 hp
              refine o_want hf (g := 80) rfl rfl ?_
              refine o_run hf (r_move hf rfl) rfl fun a hf => ?_
              refine o_want hf (g := 80) rfl rfl ?_
              refine o_run hf (r_lenL (K := ekS) hf el_28 rfl (hR780.rd hw)) rfl fun a hf => ?_
              refine o_want hf (g := 80) rfl rfl ?_
              refine o_run hf (r_move hf rfl) rfl fun a hf => ?_
              refine o_want hf (g := 80) rfl rfl ?_
              refine o_run hf (r_lenL (K := (ekI .i64)) hf el_70 rfl (hR868.rd hw)) rfl fun a hf => ?_
              refine o_want hf (g := 80) rfl rfl ?_
              refine o_run hf (r_icmp hf rfl rfl rfl) rfl fun a hf => ?_
              refine o_run hf (r_pickF hf rfl rfl) rfl fun a hf => ?_
              refine o_nil ?_
              refine c_then ?_
              have ho := out_inj hp
              subst ho
              exact ⟨((y773.length : Int) != (y861.length : Int)), rfl, hw, hf.to ⟨rfl, rfl, rfl, rfl, rfl, trivial⟩⟩
      · intro a w hM
        obtain ⟨y890, rfl, hw, hf⟩ := hM
        replace hp := hq892
        refine c_cond hf rfl (fun hb896 => ?_) (fun hb896 => ?_)
        · replace hp := cond_t hb896 hp
          refine wp_seq ?_
          refine wp_region_lit ?_
          refine o_run hf (r_assign hf rfl) rfl fun a hf => ?_
          refine o_nil ?_
          refine c_then ?_
          refine wp_ret ?_
          refine c_thenR ?_
          have ho := out_inj hp
          subst ho
          exact b_ret1 hf Go.Proofs.Tryd.results9 rfl ⟨_, rfl, ⟨rfl, (hw.back (IH.le_trans (IH.le_trans (IH.le_trans (IH.le_trans hle762 hle772) hle782) hle860) hle870) (List.Sublist.refl _))⟩⟩
        · replace hp := cond_f hb896 hp
          refine wp_skip ?_
          refine c_then ?_
          refine wp_seq ?_
          refine wp_region_lit ?_
          refine o_run hf (r_assign hf rfl) rfl fun a hf => ?_
          refine o_nil ?_
          refine c_then ?_
          refine wp_seq ?_
          obtain ⟨out1025, hp, hq1026⟩ := bind_some hp
          refine c_cutX (fun a w => (.inl ()) = out1025 ∧ Ok E I2_866 (F) w ∧ Fr 131 ([(8, rvv769), (10, rvv779), (12, rvv857), (14, rvv867)]) a) ?_ ?_
          · refine wp_block ?_
            refine c_loop ?_
            refine c_fuel (law16_ProveSame.l0 y763 y773 y851 y861) out1025 (fun (y982 : Int) a w => Ok E I2_866 (F) w ∧ Fr 131 ([(8, rvv769), (10, rvv779), (12, rvv857), (14, rvv867), (16, Value.int .i64 y982)]) a) (fun _ => rfl) ?_ BIG 0 _ _ ⟨hw, hf.to ⟨rfl, rfl, rfl, rfl, rfl, trivial⟩⟩ hp
            intro k y982 a w hI hp ih
            obtain ⟨hw, hf⟩ := hI
            rw [law16_ProveSame.l0] at hp
            refine wp_seq ?_
            obtain ⟨out1058, hp, hq1059⟩ := bind_some hp
            refine c_cut (fun a w => ∃ y1057 : Bool, y1057 = out1058 ∧ Ok E I2_866 (F) w ∧ Fr 131 ([(8, rvv769), (10, rvv779), (12, rvv857), (14, rvv867), (16, Value.int .i64 y982), (107, Value.bool y1057)]) a) ?_ ?_
            · refine c_drawn mix [] (.rd 0 (.rd 1 (.rd 2 (.rd 3 (.rd 4 (.rd 5 (.rd 6 (.rd 7 (.rd 8 (.rd 9 (.rd 10 (.rd 11 (.rd 12 (.rd 13 (.rd 14 (.rd 15 (.rd 16 (.rd 17 (.rd 18 (.rd 19 (.rd 20 .done))))))))))))))))))))) (by kernel_rfl) hw (fun w => Ok E I2_866 (F) w) (fun w hw => ⟨hw.sub (List.Sublist.refl _), ?_⟩)
              refine t_rd rfl hf (fun w hw => r_move hf rfl) rfl fun a hf => ?_
              refine t_rd rfl hf (fun w hw => r_move hf rfl) rfl fun a hf => ?_
              refine t_rd rfl hf (fun w hw => r_lenL (K := (ekI .i64)) hf el_70 rfl (hR858.rd hw)) rfl fun a hf => ?_
              refine t_rd rfl hf (fun w hw => r_icmp hf rfl rfl rfl) rfl fun a hf => ?_
              refine t_rd rfl hf (fun w hw => r_move hf rfl) rfl fun a hf => ?_
              refine g_split hf (g := 91) rfl (fun hb1061 hf => ?_) (fun hb1061 hf => ?_)
              · replace hp := cond_t hb1061 hp
                refine t_rdG rfl rfl hf rfl (fun w hw => r_move hf rfl) rfl fun a hf => ?_
                refine t_rdG rfl rfl hf rfl (fun w hw => r_move hf rfl) rfl fun a hf => ?_
                refine t_rdG rfl rfl hf rfl (fun w hw => r_lenL (K := (ekI .i64)) hf el_70 rfl (hR868.rd hw)) rfl fun a hf => ?_
                refine t_rdG rfl rfl hf rfl (fun w hw => r_icmp hf rfl rfl rfl) rfl fun a hf => ?_
                refine t_rd rfl hf (fun w hw => r_pickT hf rfl rfl) rfl fun a hf => ?_
                refine t_rd rfl hf (fun w hw => r_move hf rfl) rfl fun a hf => ?_
                refine g_split hf (g := 97) rfl (fun hb1062 hf => ?_) (fun hb1062 hf => ?_)
                · replace hp := cond_t hb1062 hp
                  refine t_rdG rfl rfl hf rfl (fun w hw => r_move hf rfl) rfl fun a hf => ?_
                  refine t_rdG rfl rfl hf rfl (fun w hw => r_move hf rfl) rfl fun a hf => ?_
                  obtain ⟨hg1063, hp⟩ := gd_some hp
                  refine t_rdG rfl rfl hf rfl (fun w hw => r_indexAddr (K := (ekI .i64)) hf el_70 rfl rfl (hR858.rd hw) hg1063) rfl fun a hf => ?_
                  refine t_rdG rfl rfl hf rfl (fun w hw => r_loadH (K := (ekI .i64)) hf rfl ty_3 (hR858.rd hw) hg1063 rfl (fun cs h => ekI_f0 h)) rfl fun a hf => ?_
                  refine t_rdG rfl rfl hf rfl (fun w hw => r_move hf rfl) rfl fun a hf => ?_
                  refine t_rdG rfl rfl hf rfl (fun w hw => r_move hf rfl) rfl fun a hf => ?_
                  obtain ⟨hg1064, hp⟩ := gd_some hp
                  refine t_rdG rfl rfl hf rfl (fun w hw => r_indexAddr (K := (ekI .i64)) hf el_70 rfl rfl (hR868.rd hw) hg1064) rfl fun a hf => ?_
                  refine t_rdG rfl rfl hf rfl (fun w hw => r_loadH (K := (ekI .i64)) hf rfl ty_3 (hR868.rd hw) hg1064 rfl (fun cs h => ekI_f0 h)) rfl fun a hf => ?_
                  refine t_rdG rfl rfl hf rfl (fun w hw => r_icmp hf rfl rfl rfl) rfl fun a hf => ?_
                  refine t_rd rfl hf (fun w hw => r_pickT hf rfl rfl) rfl fun a hf => ?_
                  refine t_done ?_
                  refine c_then ?_
                  have ho := out_inj hp
                  subst ho
                  exact ⟨((gt y851 y982) == (gt y861 y982)), rfl, hw, hf.to ⟨rfl, rfl, rfl, rfl, rfl, rfl, trivial⟩⟩
                · replace hp := cond_f hb1062 hp
                  refine t_rdS rfl rfl hf rfl rfl rfl fun a hf => ?_
                  refine t_rdS rfl rfl hf rfl rfl rfl fun a hf => ?_
                  refine t_rdS rfl rfl hf rfl rfl rfl fun a hf => ?_
                  refine t_rdS rfl rfl hf rfl rfl rfl fun a hf => ?_
                  refine t_rdS rfl rfl hf rfl rfl rfl fun a hf => ?_
                  refine t_rdS rfl rfl hf rfl rfl rfl fun a hf => ?_
                  refine t_rdS rfl rfl hf rfl rfl rfl fun a hf => ?_
                  refine t_rdS rfl rfl hf rfl rfl rfl fun a hf => ?_
                  refine t_rdS rfl rfl hf rfl rfl rfl fun a hf => ?_
                  refine t_rd rfl hf (fun w hw => r_pickF hf rfl rfl) rfl fun a hf => ?_
                  refine t_done ?_
                  refine c_then ?_
                  have ho := out_inj hp
                  subst ho
                  exact ⟨false, rfl, hw, hf.to ⟨rfl, rfl, rfl, rfl, rfl, rfl, trivial⟩⟩
              · replace hp := cond_f hb1061 hp
                refine t_rdS rfl rfl hf rfl rfl rfl fun a hf => ?_
                refine t_rdS rfl rfl hf rfl rfl rfl fun a hf => ?_
                refine t_rdS rfl rfl hf rfl rfl rfl fun a hf => ?_
                refine t_rdS rfl rfl hf rfl rfl rfl fun a hf => ?_
                refine t_rd rfl hf (fun w hw => r_pickF hf rfl rfl) rfl fun a hf => ?_
                refine t_rd rfl hf (fun w hw => r_move hf rfl) rfl fun a hf => ?_
                refine t_rdS rfl rfl hf rfl rfl rfl fun a hf => ?_
                refine t_rdS rfl rfl hf rfl rfl rfl fun a hf => ?_
                refine t_rdS rfl rfl hf rfl rfl rfl fun a hf => ?_
                refine t_rdS rfl rfl hf rfl rfl rfl fun a hf => ?_
                refine t_rdS rfl rfl hf rfl rfl rfl fun a hf => ?_
                refine t_rdS rfl rfl hf rfl rfl rfl fun a hf => ?_
                refine t_rdS rfl rfl hf rfl rfl rfl fun a hf => ?_
                refine t_rdS rfl rfl hf rfl rfl rfl fun a hf => ?_
                refine t_rdS rfl rfl hf rfl rfl rfl fun a hf => ?_
                refine t_rd rfl hf (fun w hw => r_pickF hf rfl rfl) rfl fun a hf => ?_
                refine t_done ?_
                refine c_then ?_
                have ho := out_inj hp
                subst ho
                exact ⟨false, rfl, hw, hf.to ⟨rfl, rfl, rfl, rfl, rfl, rfl, trivial⟩⟩
            · intro a w hM
              obtain ⟨y1057, rfl, hw, hf⟩ := hM
              replace hp := hq1059
              refine c_cond hf rfl (fun hb1065 => ?_) (fun hb1065 => ?_)
              · replace hp := cond_t hb1065 hp
                refine wp_skip ?_
                refine c_then ?_
                refine wp_block ?_
                refine wp_seq ?_
                refine wp_seq ?_
                refine c_drawn mix [] (.rd 0 (.rd 1 (.rd 2 (.rd 3 (.rd 4 (.rd 5 (.rd 6 (.rd 7 (.rd 8 .done))))))))) (by kernel_rfl) hw (fun w => Ok E I2_866 (F) w) (fun w hw => ⟨hw.sub (List.Sublist.refl _), ?_⟩)
                refine t_rd rfl hf (fun w hw => r_move hf rfl) rfl fun a hf => ?_
                refine t_rd rfl hf (fun w hw => r_move hf rfl) rfl fun a hf => ?_
                obtain ⟨hg1067, hp⟩ := gd_some hp
                refine t_rd rfl hf (fun w hw => r_indexAddr (K := ekS) hf el_28 rfl rfl (hR770.rd hw) hg1067) rfl fun a hf => ?_
                refine t_rd rfl hf (fun w hw => r_loadH (K := ekS) hf rfl ty_9 (hR770.rd hw) hg1067 rfl (fun cs h => ekS_f0 h)) rfl fun a hf => ?_
                refine t_rd rfl hf (fun w hw => r_move hf rfl) rfl fun a hf => ?_
                refine t_rd rfl hf (fun w hw => r_move hf rfl) rfl fun a hf => ?_
                obtain ⟨hg1068, hp⟩ := gd_some hp
                refine t_rd rfl hf (fun w hw => r_indexAddr (K := ekS) hf el_28 rfl rfl (hR780.rd hw) hg1068) rfl fun a hf => ?_
                refine t_rd rfl hf (fun w hw => r_loadH (K := ekS) hf rfl ty_9 (hR780.rd hw) hg1068 rfl (fun cs h => ekS_f0 h)) rfl fun a hf => ?_
                refine t_rd rfl hf (fun w hw => r_scmp hf rfl rfl rfl) rfl fun a hf => ?_
                refine t_done ?_
                refine c_then ?_
                refine c_cond hf rfl (fun hb1069 => ?_) (fun hb1069 => ?_)
                · replace hp := cond_t hb1069 hp
                  refine wp_seq ?_
                  refine wp_region_lit ?_
                  refine o_run hf (r_assign hf rfl) rfl fun a hf => ?_
                  refine o_nil ?_
                  refine c_then ?_
                  refine wp_ret ?_
                  refine c_thenR ?_
                  refine c_blockR ?_
                  refine c_thenR ?_
                  refine c_blockR ?_
                  refine c_thenR ?_
                  have ho := out_inj hp
                  subst ho
                  replace hp := hq1026
                  refine c_thenR ?_
                  have ho := out_inj hp
                  subst ho
                  exact b_ret1 hf Go.Proofs.Tryd.results9 rfl ⟨_, rfl, ⟨rfl, (hw.back (IH.le_trans (IH.le_trans (IH.le_trans (IH.le_trans hle762 hle772) hle782) hle860) hle870) (List.Sublist.refl _))⟩⟩
                · replace hp := cond_f hb1069 hp
                  refine wp_skip ?_
                  refine c_then ?_
                  refine wp_region_lit ?_
                  refine o_run hf (r_move hf rfl) rfl fun a hf => ?_
                  refine o_run hf (r_add hf rfl rfl) rfl fun a hf => ?_
                  refine o_run hf (r_assign hf rfl) rfl fun a hf => ?_
                  refine o_nil ?_
                  refine c_blockN ?_
                  refine c_then ?_
                  exact ih (w64 (y982 + 1)) _ _ ⟨hw, hf.to ⟨rfl, rfl, rfl, rfl, rfl, trivial⟩⟩ hp
              · replace hp := cond_f hb1065 hp
                refine wp_exit ?_
                refine c_thenE ?_
                refine c_thenE ?_
                refine c_exit ?_
                refine c_then ?_
                have ho := out_inj hp
                subst ho
                exact ⟨rfl, hw, hf.to ⟨rfl, rfl, rfl, rfl, trivial⟩⟩
          · intro a w hM
            obtain ⟨rfl, hw, hf⟩ := hM
            replace hp := hq1026
            refine c_then ?_
            obtain ⟨out69, hp, hq70⟩ := bind_some hp
            refine c_cut (fun a w => ∃ y68 : Bool, y68 = out69 ∧ Ok E I2_866 (F) w ∧ Fr 131 ([(6, Value.bool y68)]) a) ?_ ?_
            · refine wp_region_lit ?_
              refine o_run hf (r_move hf rfl) rfl fun a hf => ?_
              refine o_run hf (r_move hf rfl) rfl fun a hf => ?_
              obtain ⟨y71, hy72, hp⟩ := bind_some hp
              have hc74 := keep_Ints_ok hw hG hR858 hR868 hy72
              refine o_call hf cb_37 rfl rfl hc74 (fun v76 w a hK75 hf => ?_)
              obtain ⟨rfl, hw⟩ := hK75
              refine o_run hf (r_not hf rfl) rfl fun a hf => ?_
              refine o_run hf (r_move hf rfl) rfl fun a hf => ?_
              refine g_split hf (g := 123) rfl (fun hb77 hf => ?_) (fun hb77 hf => ?_)
              · replace hp := cond_t hb77 hp
                refine o_skip hf (g := 123) rfl rfl rfl rfl rfl rfl fun a hf => ?_
                refine o_skip hf (g := 123) rfl rfl rfl rfl rfl rfl fun a hf => ?_
                refine o_skip hf (g := 123) rfl rfl rfl rfl rfl rfl fun a hf => ?_
                refine o_run hf (r_pickT hf rfl rfl) rfl fun a hf => ?_
                refine o_run hf (r_move hf rfl) rfl fun a hf => ?_
                refine o_want hf (g := 128) rfl rfl ?_
                obtain ⟨y78, hy79, hp⟩ := bind_some hp
                have hc81 := law16_wakes_ok hw hG hy79
                refine o_call hf cb_32 rfl rfl hc81 (fun v83 w a hK82 hf => ?_)
                obtain ⟨rfl, hw⟩ := hK82
                refine o_run hf (r_pickT hf rfl rfl) rfl fun a hf => ?_
                refine o_run hf (r_assign hf rfl) rfl fun a hf => ?_
                refine o_nil ?_
                refine c_then ?_
                have ho := out_inj hp
                subst ho
                exact ⟨y78, rfl, hw, hf.to ⟨rfl, trivial⟩⟩
              · replace hp := cond_f hb77 hp
                refine o_want hf (g := 123) rfl rfl ?_
                refine o_run hf (r_move hf rfl) rfl fun a hf => ?_
                refine o_want hf (g := 123) rfl rfl ?_
                refine o_run hf (r_move hf rfl) rfl fun a hf => ?_
                refine o_want hf (g := 123) rfl rfl ?_
                obtain ⟨y84, hy85, hp⟩ := bind_some hp
                have hc87 := keep_Texts_ok hw hG hR770 hR780 hy85
                refine o_call hf cb_19 rfl rfl hc87 (fun v89 w a hK88 hf => ?_)
                obtain ⟨rfl, hw⟩ := hK88
                refine o_run hf (r_pickF hf rfl rfl) rfl fun a hf => ?_
                refine o_run hf (r_move hf rfl) rfl fun a hf => ?_
                refine g_split hf (g := 128) rfl (fun hb90 hf => ?_) (fun hb90 hf => ?_)
                · replace hp := cond_t hb90 hp
                  refine o_want hf (g := 128) rfl rfl ?_
                  obtain ⟨y91, hy92, hp⟩ := bind_some hp
                  have hc94 := law16_wakes_ok hw hG hy92
                  refine o_call hf cb_32 rfl rfl hc94 (fun v96 w a hK95 hf => ?_)
                  obtain ⟨rfl, hw⟩ := hK95
                  refine o_run hf (r_pickT hf rfl rfl) rfl fun a hf => ?_
                  refine o_run hf (r_assign hf rfl) rfl fun a hf => ?_
                  refine o_nil ?_
                  refine c_then ?_
                  have ho := out_inj hp
                  subst ho
                  exact ⟨y91, rfl, hw, hf.to ⟨rfl, trivial⟩⟩
                · replace hp := cond_f hb90 hp
                  refine o_skip hf (g := 128) rfl rfl rfl rfl rfl rfl fun a hf => ?_
                  refine o_run hf (r_pickF hf rfl rfl) rfl fun a hf => ?_
                  refine o_run hf (r_assign hf rfl) rfl fun a hf => ?_
                  refine o_nil ?_
                  refine c_then ?_
                  have ho := out_inj hp
                  subst ho
                  exact ⟨false, rfl, hw, hf.to ⟨rfl, trivial⟩⟩
            · intro a w hM
              obtain ⟨y68, rfl, hw, hf⟩ := hM
              replace hp := hq70
              refine wp_ret ?_
              have ho := out_inj hp
              subst ho
              exact b_ret1 hf Go.Proofs.Tryd.results9 rfl ⟨_, rfl, ⟨rfl, (hw.back (IH.le_trans (IH.le_trans (IH.le_trans (IH.le_trans hle762 hle772) hle782) hle860) hle870) (List.Sublist.refl _))⟩⟩

set_option maxHeartbeats 1000000 in
set_option maxRecDepth 20000 in
theorem ref04_primes_ok {E : World} {I : IH} {F : List Atom} {w : World} {a0 : Int} {res0 : List Int} (hw : Ok E I (F) w) (hG : Gl I) (hp : ref04_primes.f a0 = some res0) :
    Calls P 63 ⟨[Value.int .i64 a0]⟩ w fun e w' => ∃ v, e = .returned v ∧ ∃ I2 : IH, ∃ rvv335 : Value, v = rvv335 ∧ IH.le I I2 ∧ Ok E I2 (F) w' ∧ RS (ekI .u64) I2 rvv335 res0 := by
  refine c_enter Go.Proofs.Tryd.func63 rfl Go.Proofs.Tryd.ntmps63 rfl fun a hf => ?_
  replace hf : Fr 35 [(0, Value.int .i64 a0)] a := hf
  unfold ref04_primes.f at hp
  refine wp_seq ?_
  refine wp_region_lit ?_
  refine o_run hf (r_assign hf rfl) rfl fun a hf => ?_
  refine o_nil ?_
  refine c_then ?_
  refine wp_seq ?_
  refine wp_region_lit ?_
  refine o_run hf (r_assign hf rfl) rfl fun a hf => ?_
  refine o_nil ?_
  refine c_then ?_
  refine wp_seq ?_
  refine wp_seq ?_
  refine wp_region_lit ?_
  refine o_run hf (r_assign hf rfl) rfl fun a hf => ?_
  refine o_nil ?_
  refine c_then ?_
  replace hw := hw.nilrow 111 1
  have hRR127 : RowR (ekI .u64) I [] [] := RowR.nil
  obtain ⟨out934, hp, hq935⟩ := bind_some hp
  refine c_cutX (fun a w => ∃ y929 : List Int, ∃ yv930 : Value, ∃ m931 : Nat, ∃ cs932 : List Value, y929 = out934 ∧ Ok E I (.row yv930 111 1 m931 cs932 :: F) w ∧ Fr 35 ([(3, yv930)]) a ∧ RowR (ekI .u64) I cs932 y929) ?_ ?_
  · refine wp_block ?_
    refine c_loop ?_
    refine c_fuel (ref04_primes.l0 a0) out934 (fun (y660, y665) a w => ∃ yv661 : Value, ∃ m662 : Nat, ∃ cs663 : List Value, Ok E I (.row yv661 111 1 m662 cs663 :: F) w ∧ Fr 35 ([(0, Value.int .i64 a0), (3, yv661), (4, Value.int .u64 y665)]) a ∧ RowR (ekI .u64) I cs663 y660) (fun _ => rfl) ?_ BIG (([] : List Int), 2) _ _ ⟨(Value.slice none 0 0), 0, [], hw, hf.to ⟨rfl, rfl, rfl, trivial⟩, hRR127⟩ hp
    intro k st a w hI hp ih
    obtain ⟨y660, y665⟩ := st
    obtain ⟨yv661, m662, cs663, hw, hf, hRR664⟩ := hI
    rw [ref04_primes.l0] at hp
    refine wp_seq ?_
    refine wp_seq ?_
    refine wp_region_lit ?_
    refine o_run hf (r_move hf rfl) rfl fun a hf => ?_
    refine o_run hf (r_lenL (K := (ekI .u64)) hf el_108 rfl (row_rd (K := (ekI .u64)) hw (i := 0) rfl hRR664)) rfl fun a hf => ?_
    refine o_run hf (r_move hf rfl) rfl fun a hf => ?_
    refine o_run hf (r_icmp hf rfl rfl rfl) rfl fun a hf => ?_
    refine o_nil ?_
    refine c_then ?_
    refine c_cond hf rfl (fun hb937 => ?_) (fun hb937 => ?_)
    · replace hp := cond_t hb937 hp
      refine wp_skip ?_
      refine c_then ?_
      obtain ⟨out1113, hp, hq1114⟩ := bind_some hp
      refine c_cut (fun a w => ∃ y1108 : List Int, ∃ yv1109 : Value, ∃ m1110 : Nat, ∃ cs1111 : List Value, y1108 = out1113 ∧ Ok E I (.row yv1109 111 1 m1110 cs1111 :: F) w ∧ Fr 35 ([(0, Value.int .i64 a0), (3, yv1109), (4, Value.int .u64 y665)]) a ∧ RowR (ekI .u64) I cs1111 y1108) ?_ ?_
      · refine wp_block ?_
        refine wp_seq ?_
        refine wp_region_lit ?_
        refine o_run hf (r_assign hf rfl) rfl fun a hf => ?_
        refine o_nil ?_
        refine c_then ?_
        refine wp_seq ?_
        refine wp_seq ?_
        refine wp_region_lit ?_
        refine o_run hf (r_assign hf rfl) rfl fun a hf => ?_
        refine o_nil ?_
        refine c_then ?_
        obtain ⟨out1168, hp, hq1169⟩ := bind_some hp
        refine c_cutX (fun a w => ∃ y1167 : Bool, y1167 = out1168 ∧ Ok E I (.row yv661 111 1 m662 cs663 :: F) w ∧ Fr 35 ([(0, Value.int .i64 a0), (3, yv661), (4, Value.int .u64 y665), (5, Value.bool y1167)]) a) ?_ ?_
        · refine wp_block ?_
          refine c_loop ?_
          refine c_fuel (ref04_primes.l1 y660 y665) out1168 (fun (y1149, y1150) a w => Ok E I (.row yv661 111 1 m662 cs663 :: F) w ∧ Fr 35 ([(0, Value.int .i64 a0), (3, yv661), (4, Value.int .u64 y665), (5, Value.bool y1149), (6, Value.int .i64 y1150)]) a) (fun _ => rfl) ?_ BIG (true, 0) _ _ ⟨hw, hf.to ⟨rfl, rfl, rfl, rfl, rfl, trivial⟩⟩ hp
          intro k st a w hI hp ih
          obtain ⟨y1149, y1150⟩ := st
          obtain ⟨hw, hf⟩ := hI
          rw [ref04_primes.l1] at hp
          refine wp_seq ?_
          obtain ⟨out1181, hp, hq1182⟩ := bind_some hp
          refine c_cut (fun a w => ∃ y1180 : Bool, y1180 = out1181 ∧ Ok E I (.row yv661 111 1 m662 cs663 :: F) w ∧ Fr 35 ([(0, Value.int .i64 a0), (3, yv661), (4, Value.int .u64 y665), (5, Value.bool y1149), (6, Value.int .i64 y1150), (19, Value.bool y1180)]) a) ?_ ?_
          · refine wp_region_lit ?_
            refine o_run hf (r_move hf rfl) rfl fun a hf => ?_
            refine o_run hf (r_move hf rfl) rfl fun a hf => ?_
            refine o_run hf (r_lenL (K := (ekI .u64)) hf el_108 rfl (row_rd (K := (ekI .u64)) hw (i := 0) rfl hRR664)) rfl fun a hf => ?_
            refine o_run hf (r_icmp hf rfl rfl rfl) rfl fun a hf => ?_
            refine o_run hf (r_move hf rfl) rfl fun a hf => ?_
            refine g_split hf (g := 17) rfl (fun hb1183 hf => ?_) (fun hb1183 hf => ?_)
            · replace hp := cond_t hb1183 hp
              refine o_want hf (g := 17) rfl rfl ?_
              refine o_run hf (r_move hf rfl) rfl fun a hf => ?_
              refine o_run hf (r_pickT hf rfl rfl) rfl fun a hf => ?_
              refine o_nil ?_
              refine c_then ?_
              have ho := out_inj hp
              subst ho
              exact ⟨y1149, rfl, hw, hf.to ⟨rfl, rfl, rfl, rfl, rfl, rfl, trivial⟩⟩
            · replace hp := cond_f hb1183 hp
              refine o_skip hf (g := 17) rfl rfl rfl rfl rfl rfl fun a hf => ?_
              refine o_run hf (r_pickF hf rfl rfl) rfl fun a hf => ?_
              refine o_nil ?_
              refine c_then ?_
              have ho := out_inj hp
              subst ho
              exact ⟨false, rfl, hw, hf.to ⟨rfl, rfl, rfl, rfl, rfl, rfl, trivial⟩⟩
          · intro a w hM
            obtain ⟨y1180, rfl, hw, hf⟩ := hM
            replace hp := hq1182
            refine c_cond hf rfl (fun hb1184 => ?_) (fun hb1184 => ?_)
            · replace hp := cond_t hb1184 hp
              refine wp_skip ?_
              refine c_then ?_
              refine wp_seq ?_
              refine wp_block ?_
              refine wp_region_lit ?_
              refine o_run hf (r_move hf rfl) rfl fun a hf => ?_
              refine o_run hf (r_move hf rfl) rfl fun a hf => ?_
              refine o_run hf (r_move hf rfl) rfl fun a hf => ?_
              obtain ⟨hg1185, hp⟩ := gd_some hp
              refine o_run hf (r_indexAddr (K := (ekI .u64)) hf el_108 rfl rfl (row_rd (K := (ekI .u64)) hw (i := 0) rfl hRR664) hg1185) rfl fun a hf => ?_
              refine o_run hf (r_loadH (K := (ekI .u64)) hf rfl ty_111 (row_rd (K := (ekI .u64)) hw (i := 0) rfl hRR664) hg1185 rfl (fun cs h => ekI_f0 h)) rfl fun a hf => ?_
              obtain ⟨hg1186, hp⟩ := gd_some hp
              refine o_run hf (r_rem hf rfl rfl hg1186) rfl fun a hf => ?_
              refine o_run hf (r_icmp hf rfl rfl rfl) rfl fun a hf => ?_
              refine o_run hf (r_assign hf rfl) rfl fun a hf => ?_
              refine o_nil ?_
              refine c_blockN ?_
              refine c_then ?_
              refine wp_region_lit ?_
              refine o_run hf (r_move hf rfl) rfl fun a hf => ?_
              refine o_run hf (r_add hf rfl rfl) rfl fun a hf => ?_
              refine o_run hf (r_assign hf rfl) rfl fun a hf => ?_
              refine o_nil ?_
              refine c_then ?_
              exact ih ((y665.tmod (gt y660 y1150)) != 0, w64 (y1150 + 1)) _ _ ⟨hw, hf.to ⟨rfl, rfl, rfl, rfl, rfl, trivial⟩⟩ hp
            · replace hp := cond_f hb1184 hp
              refine wp_exit ?_
              refine c_thenE ?_
              refine c_thenE ?_
              refine c_exit ?_
              refine c_then ?_
              have ho := out_inj hp
              subst ho
              exact ⟨y1149, rfl, hw, hf.to ⟨rfl, rfl, rfl, rfl, trivial⟩⟩
        · intro a w hM
          obtain ⟨y1167, rfl, hw, hf⟩ := hM
          replace hp := hq1169
          refine c_then ?_
          refine wp_seq ?_
          refine wp_region_lit ?_
          refine o_run hf (r_move hf rfl) rfl fun a hf => ?_
          refine o_nil ?_
          refine c_then ?_
          refine c_cond hf rfl (fun hb1188 => ?_) (fun hb1188 => ?_)
          · replace hp := cond_t hb1188 hp
            refine wp_region_lit ?_
            refine o_run hf (r_move hf rfl) rfl fun a hf => ?_
            refine o_run hf (r_move hf rfl) rfl fun a hf => ?_
            obtain ⟨w, v1189, hrun1190, hw, hRR1191⟩ := e_buildSlice (P := P) (K := (ekI .u64)) (m := 1) hw hf (parts := [(0, .tmp 31)]) el_108 ty_111 rfl rfl rfl (ccs := [[Value.int .u64 y665]]) rfl (xs := [y665]) ⟨rfl, trivial⟩ rfl
            obtain ⟨cs1192, hcs⟩ : ∃ cs, cs = ([[Value.int .u64 y665]] : List (List Value)).flatten := ⟨_, rfl⟩
            rw [← hcs] at hw hRR1191; clear hcs
            refine o_eff hf (hrun1190 ..) rfl fun a hf => ?_
            obtain ⟨hg1194, hp⟩ := gd_some hp
            obtain ⟨w, v1195, m1196, cs1197, hrun1199, hw, hRR1198⟩ := e_append (P := P) (K := (ekI .u64)) (ty := 108) hw hf (s := .tmp 30) (x := .tmp 32) el_108 ty_111 rfl (by decide) 1 rfl rfl rfl hRR664 (ys := [y665]) (row_rd (K := (ekI .u64)) hw (i := 0) rfl hRR1191) hg1194
            replace hw : Ok E I (.row v1189 111 1 1 cs1192 :: .row v1195 111 1 m1196 cs1197 :: F) w := hw
            refine o_eff hf (hrun1199 ..) rfl fun a hf => ?_
            refine o_run hf (r_assign hf rfl) rfl fun a hf => ?_
            refine o_nil ?_
            refine c_blockN ?_
            refine c_then ?_
            have ho := out_inj hp
            subst ho
            replace hw : Ok E I (.row v1195 111 1 m1196 cs1197 :: F) w := hw.sub (List.Sublist.cons _ (List.Sublist.cons_cons _ (List.Sublist.refl _)))
            exact ⟨(y660 ++ [y665]), v1195, m1196, cs1197, rfl, hw, hf.to ⟨rfl, rfl, rfl, trivial⟩, hRR1198⟩
          · replace hp := cond_f hb1188 hp
            refine wp_skip ?_
            refine c_blockN ?_
            refine c_then ?_
            have ho := out_inj hp
            subst ho
            exact ⟨y660, yv661, m662, cs663, rfl, hw, hf.to ⟨rfl, rfl, rfl, trivial⟩, hRR664⟩
      · intro a w hM
        obtain ⟨y1108, yv1109, m1110, cs1111, rfl, hw, hf, hRR1112⟩ := hM
        replace hp := hq1114
        refine wp_region_lit ?_
        refine o_run hf (r_move hf rfl) rfl fun a hf => ?_
        refine o_run hf (r_add hf rfl rfl) rfl fun a hf => ?_
        refine o_run hf (r_assign hf rfl) rfl fun a hf => ?_
        refine o_nil ?_
        refine c_then ?_
        exact ih (y1108, wu64 (y665 + 1)) _ _ ⟨yv1109, m1110, cs1111, hw, hf.to ⟨rfl, rfl, rfl, trivial⟩, hRR1112⟩ hp
    · replace hp := cond_f hb937 hp
      refine wp_exit ?_
      refine c_thenE ?_
      refine c_thenE ?_
      refine c_exit ?_
      refine c_then ?_
      have ho := out_inj hp
      subst ho
      exact ⟨y660, yv661, m662, cs663, rfl, hw, hf.to ⟨rfl, trivial⟩, hRR664⟩
  · intro a w hM
    obtain ⟨y929, yv930, m931, cs932, rfl, hw, hf, hRR933⟩ := hM
    replace hp := hq935
    refine c_then ?_
    refine wp_seq ?_
    refine wp_region_lit ?_
    refine o_run hf (r_move hf rfl) rfl fun a hf => ?_
    refine o_run hf (r_assign hf rfl) rfl fun a hf => ?_
    refine o_nil ?_
    refine c_then ?_
    refine wp_ret ?_
    have hw : Ok E I (.row yv930 111 1 m931 cs932 :: F) w := hw.front (i := 0) rfl
    obtain ⟨I1201, hle1202, hw, hR1203⟩ := row_freeze (K := (ekI .u64)) hw hRR933
    replace hG := hG.mono hle1202
    have ho := out_inj hp
    subst ho
    exact b_ret1 hf Go.Proofs.Tryd.results63 rfl ⟨_, rfl, ⟨I1201, yv930, rfl, hle1202, hw, hR1203⟩⟩
end Go.Lf
