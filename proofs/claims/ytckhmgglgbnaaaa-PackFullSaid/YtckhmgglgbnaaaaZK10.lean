/- The Go functions compute the plain Lean functions (printed by our lift.py). -/
import Derived.Test.YtckhmgglgbnaaaaZD
import Derived.Test.YtckhmgglgbnaaaaZF
import Derived.Test.YtckhmgglgbnaaaaZK0
import Derived.Test.YtckhmgglgbnaaaaZK1
import Derived.Test.YtckhmgglgbnaaaaZK6
import Derived.Test.YtckhmgglgbnaaaaZK7
import Derived.Test.YtckhmgglgbnaaaaZK8
set_option linter.unusedVariables false
set_option linter.unusedSimpArgs false
namespace Go.Lf
open Go
set_option maxHeartbeats 1000000 in
set_option maxRecDepth 20000 in
theorem law19_PackFull_ok {E : World} {I : IH} {F : List Atom} {w : World} {a0 : List Pair} {a0v2201 : Value} {res0 : Bool} (hw : Ok E I (F) w) (hR2202 : RS ek_Pair I a0v2201 a0) (hp : law19_PackFull.f a0 = some res0) :
    Calls P 5 ⟨[a0v2201]⟩ w fun e w' => ∃ v, e = .returned v ∧ v = Value.bool res0 ∧ Ok E I (F) w' := by
  refine c_enter Go.Proofs.Try.func5 rfl Go.Proofs.Try.ntmps5 rfl fun a hf => ?_
  replace hf : Fr 145 [(0, a0v2201)] a := hf
  unfold law19_PackFull.f at hp
  refine wp_seq ?_
  refine wp_region_lit ?_
  refine o_run hf (r_assign hf rfl) rfl fun a hf => ?_
  refine o_nil ?_
  refine c_then ?_
  refine wp_seq ?_
  obtain ⟨out77, hp, hq78⟩ := bind_some hp
  refine c_cut (fun a w => ∃ y76 : Bool, y76 = out77 ∧ Ok E I (F) w ∧ Fr 145 ([(0, a0v2201), (21, Value.bool y76)]) a) ?_ ?_
  · refine wp_region_lit ?_
    refine o_run hf (r_move hf rfl) rfl fun a hf => ?_
    obtain ⟨y79, hy80, hp⟩ := bind_some hp
    have hc82 := keep_LongPairs_ok hw hR2202 hy80
    refine o_call hf cb_22 rfl rfl hc82 (fun v84 w a hK83 hf => ?_)
    obtain ⟨rfl, hw⟩ := hK83
    refine o_run hf (r_move hf rfl) rfl fun a hf => ?_
    refine g_split hf (g := 17) rfl (fun hb85 hf => ?_) (fun hb85 hf => ?_)
    · replace hp := cond_t hb85 hp
      refine o_skip hf (g := 17) rfl rfl rfl rfl rfl rfl fun a hf => ?_
      refine o_skip hf (g := 17) rfl rfl rfl rfl rfl rfl fun a hf => ?_
      refine o_skip hf (g := 17) rfl rfl rfl rfl rfl rfl fun a hf => ?_
      refine o_run hf (r_pickT hf rfl rfl) rfl fun a hf => ?_
      refine o_nil ?_
      refine c_then ?_
      have ho := out_inj hp
      subst ho
      exact ⟨true, rfl, hw, hf.to ⟨rfl, rfl, trivial⟩⟩
    · replace hp := cond_f hb85 hp
      refine o_want hf (g := 17) rfl rfl ?_
      refine o_run hf (r_move hf rfl) rfl fun a hf => ?_
      refine o_want hf (g := 17) rfl rfl ?_
      obtain ⟨y86, hy87, hp⟩ := bind_some hp
      have hc89 := ref10_May_ok hw hR2202 hy87
      refine o_call hf cb_23 rfl rfl hc89 (fun v91 w a hK90 hf => ?_)
      obtain ⟨rfl, hw⟩ := hK90
      refine o_want hf (g := 17) rfl rfl ?_
      refine o_run hf (r_not hf rfl) rfl fun a hf => ?_
      refine o_run hf (r_pickF hf rfl rfl) rfl fun a hf => ?_
      refine o_nil ?_
      refine c_then ?_
      have ho := out_inj hp
      subst ho
      exact ⟨(!y86), rfl, hw, hf.to ⟨rfl, rfl, trivial⟩⟩
  · intro a w hM
    obtain ⟨y76, rfl, hw, hf⟩ := hM
    replace hp := hq78
    refine c_cond hf rfl (fun hb92 => ?_) (fun hb92 => ?_)
    · replace hp := cond_t hb92 hp
      refine wp_seq ?_
      refine wp_region_lit ?_
      obtain ⟨y93, hy94, hp⟩ := bind_some hp
      have hc96 := law19_wakes_ok hw hy94
      refine o_call hf cb_13 rfl rfl hc96 (fun v98 w a hK97 hf => ?_)
      obtain ⟨rfl, hw⟩ := hK97
      refine o_run hf (r_assign hf rfl) rfl fun a hf => ?_
      refine o_nil ?_
      refine c_then ?_
      refine wp_ret ?_
      refine c_thenR ?_
      have ho := out_inj hp
      subst ho
      exact b_ret1 hf Go.Proofs.Try.results5 rfl ⟨_, rfl, ⟨rfl, hw⟩⟩
    · replace hp := cond_f hb92 hp
      refine wp_skip ?_
      refine c_then ?_
      refine wp_seq ?_
      refine wp_region_lit ?_
      refine o_run hf (r_move hf rfl) rfl fun a hf => ?_
      obtain ⟨y99, hy100, hp⟩ := bind_some hp
      have hc102 := ref10_Build_ok hw hR2202 hy100
      refine o_call hf cb_24 rfl rfl hc102 (fun v108 w a hK103 hf => ?_)
      obtain ⟨I2_103, rvv104, rvv106, rfl, hle109, hw, hR105, hR107⟩ := hK103
      replace hR2202 := hR2202.mono hle109
      refine o_run hf (r_field hf rfl fd_47_0 ty_23 rfl) rfl fun a hf => ?_
      refine o_run hf (r_assign hf rfl) rfl fun a hf => ?_
      refine o_nil ?_
      refine c_then ?_
      refine wp_seq ?_
      refine wp_region_lit ?_
      refine o_run hf (r_move hf rfl) rfl fun a hf => ?_
      obtain ⟨y113, hy112, hp⟩ := bind_some hp
      obtain ⟨y110, y111⟩ := y113
      have hc114 := pack_Of_ok hw hR105 hy112
      refine o_call hf cb_14 rfl rfl hc114 (fun v118 w a hK115 hf => ?_)
      obtain ⟨I2_115, rvv116, rfl, hle119, hw, hR117⟩ := hK115
      replace hR2202 := hR2202.mono hle119
      replace hR105 := hR105.mono hle119
      replace hR107 := hR107.mono hle119
      refine o_run hf (r_move hf rfl) rfl fun a hf => ?_
      refine o_run hf (r_extract hf rfl rfl) rfl fun a hf => ?_
      refine o_run hf (r_extract hf rfl rfl) rfl fun a hf => ?_
      refine o_run hf (r_assign hf rfl) rfl fun a hf => ?_
      refine o_run hf (r_assign hf rfl) rfl fun a hf => ?_
      refine o_nil ?_
      refine c_then ?_
      refine wp_seq ?_
      refine wp_seq ?_
      refine wp_region_lit ?_
      refine o_run hf (r_move hf rfl) rfl fun a hf => ?_
      refine o_run hf (r_not hf rfl) rfl fun a hf => ?_
      refine o_nil ?_
      refine c_then ?_
      refine c_cond hf rfl (fun hb120 => ?_) (fun hb120 => ?_)
      · replace hp := cond_t hb120 hp
        refine wp_seq ?_
        refine wp_region_lit ?_
        refine o_run hf (r_assign hf rfl) rfl fun a hf => ?_
        refine o_nil ?_
        refine c_then ?_
        refine wp_ret ?_
        refine c_thenR ?_
        have ho := out_inj hp
        subst ho
        exact b_ret1 hf Go.Proofs.Try.results5 rfl ⟨_, rfl, ⟨rfl, (hw.back (IH.le_trans hle109 hle119) (List.Sublist.refl _))⟩⟩
      · replace hp := cond_f hb120 hp
        refine wp_skip ?_
        refine c_then ?_
        refine wp_seq ?_
        refine wp_seq ?_
        refine wp_region_lit ?_
        refine o_run hf (r_assign hf rfl) rfl fun a hf => ?_
        refine o_nil ?_
        refine c_then ?_
        obtain ⟨out13803, hp, hq13804⟩ := bind_some hp
        refine c_cutX (fun a w => ∃ I13802 : IH, (.inl ()) = out13803 ∧ IH.le I2_115 I13802 ∧ Ok E I13802 (F) w ∧ Fr 145 ([]) a) ?_ ?_
        · refine wp_block ?_
          refine c_loop ?_
          refine c_fuel (law19_PackFull.l0 y99 y110) out13803 (fun (y9242 : Int) a w => ∃ I9241 : IH, IH.le I2_115 I9241 ∧ Ok E I9241 (F) w ∧ Fr 145 ([(3, rvv104), (4, rvv116), (6, Value.int .i64 y9242)]) a) (fun _ => rfl) ?_ BIG 0 _ _ ⟨I2_115, (IH.le_refl _), hw, hf.to ⟨rfl, rfl, rfl, trivial⟩⟩ hp
          intro k y9242 a w hI hp ih
          obtain ⟨I9241, hle13805, hw, hf⟩ := hI
          rw [law19_PackFull.l0] at hp
          replace hR105 := hR105.mono hle13805
          replace hR117 := hR117.mono hle13805
          refine wp_seq ?_
          refine wp_seq ?_
          refine wp_region_lit ?_
          refine o_run hf (r_move hf rfl) rfl fun a hf => ?_
          refine o_run hf (r_move hf rfl) rfl fun a hf => ?_
          refine o_run hf (r_lenL (K := ek_Plan) hf el_29 rfl (hR117.rd hw)) rfl fun a hf => ?_
          refine o_run hf (r_icmp hf rfl rfl rfl) rfl fun a hf => ?_
          refine o_nil ?_
          refine c_then ?_
          refine c_cond hf rfl (fun hb13806 => ?_) (fun hb13806 => ?_)
          · replace hp := cond_t hb13806 hp
            refine wp_skip ?_
            refine c_then ?_
            refine wp_seq ?_
            refine wp_block ?_
            refine wp_seq ?_
            refine wp_region_lit ?_
            refine o_run hf (r_assign hf rfl) rfl fun a hf => ?_
            refine o_nil ?_
            refine c_then ?_
            obtain ⟨out17223, hp, hq17224⟩ := bind_some hp
            refine c_cutX (fun a w => ∃ I17222 : IH, (.inl ()) = out17223 ∧ IH.le I9241 I17222 ∧ Ok E I17222 (F) w ∧ Fr 145 ([(3, rvv104), (4, rvv116), (6, Value.int .i64 y9242)]) a) ?_ ?_
            · refine wp_block ?_
              refine c_loop ?_
              refine c_fuel (law19_PackFull.l1 y99 y110 y9242) out17223 (fun (y16084 : Int) a w => ∃ I16083 : IH, IH.le I9241 I16083 ∧ Ok E I16083 (F) w ∧ Fr 145 ([(3, rvv104), (4, rvv116), (6, Value.int .i64 y9242), (7, Value.int .i64 y16084)]) a) (fun _ => rfl) ?_ BIG 0 _ _ ⟨I9241, (IH.le_refl _), hw, hf.to ⟨rfl, rfl, rfl, rfl, trivial⟩⟩ hp
              intro k y16084 a w hI hp ih
              obtain ⟨I16083, hle17225, hw, hf⟩ := hI
              rw [law19_PackFull.l1] at hp
              replace hR105 := hR105.mono hle17225
              replace hR117 := hR117.mono hle17225
              refine wp_seq ?_
              refine wp_seq ?_
              refine wp_region_lit ?_
              refine o_run hf (r_move hf rfl) rfl fun a hf => ?_
              refine o_run hf (r_move hf rfl) rfl fun a hf => ?_
              refine o_run hf (r_move hf rfl) rfl fun a hf => ?_
              obtain ⟨hg17226, hp⟩ := gd_some hp
              refine o_run hf (r_indexAddr (K := ek_Plan) hf el_29 rfl rfl (hR117.rd hw) hg17226) rfl fun a hf => ?_
              refine o_run hf (r_fieldAddrH hf rfl fd_26_3) rfl fun a hf => ?_
              obtain ⟨v17227, hR17228, hrun17229⟩ := rs_loadHX (P := P) ty_24 hR117 hg17226 rfl (fun cs h => Plan_f3 h)
              refine o_run hf (hrun17229 _ _ _ _ _ _ _ _ _ _ _ _ hw hf rfl) rfl fun a hf => ?_
              refine o_run hf (r_lenL (K := (ekI .i64)) hf el_24 rfl (hR17228.rd hw)) rfl fun a hf => ?_
              refine o_run hf (r_icmp hf rfl rfl rfl) rfl fun a hf => ?_
              refine o_nil ?_
              refine c_then ?_
              refine c_cond hf rfl (fun hb17230 => ?_) (fun hb17230 => ?_)
              · replace hp := cond_t hb17230 hp
                refine wp_skip ?_
                refine c_then ?_
                refine wp_seq ?_
                refine wp_block ?_
                refine wp_seq ?_
                obtain ⟨out17857, hp, hq17858⟩ := bind_some hp
                refine c_cut (fun a w => ∃ y17856 : Bool, y17856 = out17857 ∧ Ok E I16083 (F) w ∧ Fr 145 ([(3, rvv104), (4, rvv116), (6, Value.int .i64 y9242), (7, Value.int .i64 y16084), (70, Value.bool y17856)]) a) ?_ ?_
                · refine wp_region_lit ?_
                  refine o_run hf (r_move hf rfl) rfl fun a hf => ?_
                  refine o_run hf (r_move hf rfl) rfl fun a hf => ?_
                  obtain ⟨hg17859, hp⟩ := gd_some hp
                  refine o_run hf (r_indexAddr (K := ek_Plan) hf el_29 rfl rfl (hR117.rd hw) hg17859) rfl fun a hf => ?_
                  refine o_run hf (r_fieldAddrH hf rfl fd_26_3) rfl fun a hf => ?_
                  obtain ⟨v17860, hR17861, hrun17862⟩ := rs_loadHX (P := P) ty_24 hR117 hg17859 rfl (fun cs h => Plan_f3 h)
                  refine o_run hf (hrun17862 _ _ _ _ _ _ _ _ _ _ _ _ hw hf rfl) rfl fun a hf => ?_
                  refine o_run hf (r_move hf rfl) rfl fun a hf => ?_
                  obtain ⟨hg17863, hp⟩ := gd_some hp
                  refine o_run hf (r_indexAddr (K := (ekI .i64)) hf el_24 rfl rfl (hR17861.rd hw) hg17863) rfl fun a hf => ?_
                  refine o_run hf (r_loadH (K := (ekI .i64)) hf rfl ty_3 (hR17861.rd hw) hg17863 rfl (fun cs h => ekI_f0 h)) rfl fun a hf => ?_
                  refine o_run hf (r_icmp hf rfl rfl rfl) rfl fun a hf => ?_
                  refine o_run hf (r_move hf rfl) rfl fun a hf => ?_
                  refine g_split hf (g := 58) rfl (fun hb17864 hf => ?_) (fun hb17864 hf => ?_)
                  · replace hp := cond_t hb17864 hp
                    refine o_skip hf (g := 58) rfl rfl rfl rfl rfl rfl fun a hf => ?_
                    refine o_skip hf (g := 58) rfl rfl rfl rfl rfl rfl fun a hf => ?_
                    refine o_skip hf (g := 58) rfl rfl rfl rfl rfl rfl fun a hf => ?_
                    refine o_skip hf (g := 58) rfl rfl rfl rfl rfl rfl fun a hf => ?_
                    refine o_skip hf (g := 58) rfl rfl rfl rfl rfl rfl fun a hf => ?_
                    refine o_skip hf (g := 58) rfl rfl rfl rfl rfl rfl fun a hf => ?_
                    refine o_skip hf (g := 58) rfl rfl rfl rfl rfl rfl fun a hf => ?_
                    refine o_skip hf (g := 58) rfl rfl rfl rfl rfl rfl fun a hf => ?_
                    refine o_skip hf (g := 58) rfl rfl rfl rfl rfl rfl fun a hf => ?_
                    refine o_skip hf (g := 58) rfl rfl rfl rfl rfl rfl fun a hf => ?_
                    refine o_skip hf (g := 58) rfl rfl rfl rfl rfl rfl fun a hf => ?_
                    refine o_run hf (r_pickT hf rfl rfl) rfl fun a hf => ?_
                    refine o_nil ?_
                    refine c_then ?_
                    have ho := out_inj hp
                    subst ho
                    exact ⟨true, rfl, hw, hf.to ⟨rfl, rfl, rfl, rfl, rfl, trivial⟩⟩
                  · replace hp := cond_f hb17864 hp
                    refine o_want hf (g := 58) rfl rfl ?_
                    refine o_run hf (r_move hf rfl) rfl fun a hf => ?_
                    refine o_want hf (g := 58) rfl rfl ?_
                    refine o_run hf (r_move hf rfl) rfl fun a hf => ?_
                    obtain ⟨hg17865, hp⟩ := gd_some hp
                    refine o_want hf (g := 58) rfl rfl ?_
                    refine o_run hf (r_indexAddr (K := ek_Plan) hf el_29 rfl rfl (hR117.rd hw) hg17865) rfl fun a hf => ?_
                    refine o_want hf (g := 58) rfl rfl ?_
                    refine o_run hf (r_fieldAddrH hf rfl fd_26_3) rfl fun a hf => ?_
                    obtain ⟨v17866, hR17867, hrun17868⟩ := rs_loadHX (P := P) ty_24 hR117 hg17865 rfl (fun cs h => Plan_f3 h)
                    refine o_want hf (g := 58) rfl rfl ?_
                    refine o_run hf (hrun17868 _ _ _ _ _ _ _ _ _ _ _ _ hw hf rfl) rfl fun a hf => ?_
                    refine o_want hf (g := 58) rfl rfl ?_
                    refine o_run hf (r_move hf rfl) rfl fun a hf => ?_
                    obtain ⟨hg17869, hp⟩ := gd_some hp
                    refine o_want hf (g := 58) rfl rfl ?_
                    refine o_run hf (r_indexAddr (K := (ekI .i64)) hf el_24 rfl rfl (hR17867.rd hw) hg17869) rfl fun a hf => ?_
                    refine o_want hf (g := 58) rfl rfl ?_
                    refine o_run hf (r_loadH (K := (ekI .i64)) hf rfl ty_3 (hR17867.rd hw) hg17869 rfl (fun cs h => ekI_f0 h)) rfl fun a hf => ?_
                    refine o_want hf (g := 58) rfl rfl ?_
                    refine o_run hf (r_move hf rfl) rfl fun a hf => ?_
                    refine o_want hf (g := 58) rfl rfl ?_
                    refine o_run hf (r_lenL (K := ek_Plan) hf el_29 rfl (hR117.rd hw)) rfl fun a hf => ?_
                    refine o_want hf (g := 58) rfl rfl ?_
                    refine o_run hf (r_icmp hf rfl rfl rfl) rfl fun a hf => ?_
                    refine o_run hf (r_pickF hf rfl rfl) rfl fun a hf => ?_
                    refine o_nil ?_
                    refine c_then ?_
                    have ho := out_inj hp
                    subst ho
                    exact ⟨(decide ((gt ((gt y110 y9242).kids_) y16084) ≥ (y110.length : Int))), rfl, hw, hf.to ⟨rfl, rfl, rfl, rfl, rfl, trivial⟩⟩
                · intro a w hM
                  obtain ⟨y17856, rfl, hw, hf⟩ := hM
                  replace hp := hq17858
                  refine c_cond hf rfl (fun hb17870 => ?_) (fun hb17870 => ?_)
                  · replace hp := cond_t hb17870 hp
                    refine wp_seq ?_
                    refine wp_region_lit ?_
                    refine o_run hf (r_assign hf rfl) rfl fun a hf => ?_
                    refine o_nil ?_
                    refine c_then ?_
                    refine wp_ret ?_
                    refine c_thenR ?_
                    refine c_blockR ?_
                    refine c_thenR ?_
                    refine c_thenR ?_
                    refine c_blockR ?_
                    refine c_thenR ?_
                    have ho := out_inj hp
                    subst ho
                    replace hp := hq17224
                    refine c_blockR ?_
                    refine c_thenR ?_
                    refine c_thenR ?_
                    refine c_blockR ?_
                    refine c_thenR ?_
                    have ho := out_inj hp
                    subst ho
                    replace hp := hq13804
                    refine c_thenR ?_
                    have ho := out_inj hp
                    subst ho
                    exact b_ret1 hf Go.Proofs.Try.results5 rfl ⟨_, rfl, ⟨rfl, (hw.back (IH.le_trans (IH.le_trans (IH.le_trans hle109 hle119) hle13805) hle17225) (List.Sublist.refl _))⟩⟩
                  · replace hp := cond_f hb17870 hp
                    refine wp_skip ?_
                    refine c_then ?_
                    refine wp_seq ?_
                    refine wp_region_lit ?_
                    refine o_run hf (r_move hf rfl) rfl fun a hf => ?_
                    refine o_run hf (r_move hf rfl) rfl fun a hf => ?_
                    refine o_run hf (r_move hf rfl) rfl fun a hf => ?_
                    obtain ⟨hg17871, hp⟩ := gd_some hp
                    refine o_run hf (r_indexAddr (K := ek_Plan) hf el_29 rfl rfl (hR117.rd hw) hg17871) rfl fun a hf => ?_
                    refine o_run hf (r_fieldAddrH hf rfl fd_26_3) rfl fun a hf => ?_
                    obtain ⟨v17872, hR17873, hrun17874⟩ := rs_loadHX (P := P) ty_24 hR117 hg17871 rfl (fun cs h => Plan_f3 h)
                    refine o_run hf (hrun17874 _ _ _ _ _ _ _ _ _ _ _ _ hw hf rfl) rfl fun a hf => ?_
                    refine o_run hf (r_move hf rfl) rfl fun a hf => ?_
                    obtain ⟨hg17875, hp⟩ := gd_some hp
                    refine o_run hf (r_indexAddr (K := (ekI .i64)) hf el_24 rfl rfl (hR17873.rd hw) hg17875) rfl fun a hf => ?_
                    refine o_run hf (r_loadH (K := (ekI .i64)) hf rfl ty_3 (hR17873.rd hw) hg17875 rfl (fun cs h => ekI_f0 h)) rfl fun a hf => ?_
                    obtain ⟨hg17876, hp⟩ := gd_some hp
                    refine o_run hf (r_indexAddr (K := ek_Plan) hf el_29 rfl rfl (hR117.rd hw) hg17876) rfl fun a hf => ?_
                    refine o_run hf (r_fieldAddrH hf rfl fd_26_1) rfl fun a hf => ?_
                    refine o_run hf (r_loadH (K := ek_Plan) hf rfl ty_3 (hR117.rd hw) hg17876 rfl (fun cs h => Plan_f1 h)) rfl fun a hf => ?_
                    refine o_run hf (r_assign hf rfl) rfl fun a hf => ?_
                    refine o_nil ?_
                    refine c_then ?_
                    refine wp_seq ?_
                    refine wp_region_lit ?_
                    refine o_run hf (r_move hf rfl) rfl fun a hf => ?_
                    refine o_run hf (r_move hf rfl) rfl fun a hf => ?_
                    obtain ⟨y17880, hy17879, hp⟩ := bind_some hp
                    obtain ⟨y17877, y17878⟩ := y17880
                    have hc17881 := pack_Size_ok hw hR105 hy17879
                    refine o_call hf cb_16 rfl rfl hc17881 (fun v17883 w a hK17882 hf => ?_)
                    obtain ⟨rfl, hw⟩ := hK17882
                    refine o_run hf (r_move hf rfl) rfl fun a hf => ?_
                    refine o_run hf (r_extract hf rfl rfl) rfl fun a hf => ?_
                    refine o_run hf (r_extract hf rfl rfl) rfl fun a hf => ?_
                    refine o_run hf (r_assign hf rfl) rfl fun a hf => ?_
                    refine o_run hf (r_assign hf rfl) rfl fun a hf => ?_
                    refine o_nil ?_
                    refine c_then ?_
                    refine wp_seq ?_
                    refine wp_region_lit ?_
                    refine o_run hf (r_build hf bd_26 (vs := []) rfl trivial (by decide) (out := [Value.string (⟨#[]⟩ : ByteArray), Value.int .i64 0, Value.slice none 0 0, Value.slice none 0 0]) rfl) rfl fun a hf => ?_
                    obtain ⟨b17884, w, hrun17885, hw⟩ := e_alloc (P := P) (a := a) hw ty_26
                    replace hw : Ok E I16083 (.blk b17884 (.cells ⟨[Value.string (⟨#[]⟩ : ByteArray), Value.int .i64 0, Value.slice none 0 0, Value.slice none 0 0]⟩ 26 (0, 0)) :: F) w := hw
                    refine o_eff hf (hrun17885 ..) rfl fun a hf => ?_
                    obtain ⟨w, hrun17887, hw⟩ := e_store (P := P) hw hf (x := .tmp 11) (y := .tmp 89) rfl rfl ty_26 0 rfl (vs := [Value.string (⟨#[]⟩ : ByteArray), Value.int .i64 0, Value.slice none 0 0, Value.slice none 0 0]) rfl rfl (ones_cons rfl (ones_cons rfl (ones_cons rfl (ones_cons rfl ones_nil)))) (by simp [arrC_len]) (cs' := [Value.string (⟨#[]⟩ : ByteArray), Value.int .i64 0, Value.slice none 0 0, Value.slice none 0 0]) rfl
                    replace hw : Ok E I16083 (.blk b17884 (.cells ⟨[Value.string (⟨#[]⟩ : ByteArray), Value.int .i64 0, Value.slice none 0 0, Value.slice none 0 0]⟩ 26 (0, 0)) :: F) w := hw
                    refine o_effU (hrun17887 ..) ?_
                    refine o_nil ?_
                    refine c_then ?_
                    refine wp_seq ?_
                    refine wp_seq ?_
                    refine wp_region_lit ?_
                    refine o_run hf (r_assign hf rfl) rfl fun a hf => ?_
                    refine o_nil ?_
                    refine c_then ?_
                    replace hw := hw.nilrow 3 1
                    have hRR17977 : RowR (ekI .i64) I16083 [] [] := RowR.nil
                    obtain ⟨out18253, hp, hq18254⟩ := bind_some hp
                    refine c_cutX (fun a w => ∃ y18248 : List Int, ∃ yv18249 : Value, ∃ m18250 : Nat, ∃ cs18251 : List Value, y18248 = out18253 ∧ Ok E I16083 (.row yv18249 3 1 m18250 cs18251 :: .blk b17884 (.cells ⟨[Value.string (⟨#[]⟩ : ByteArray), Value.int .i64 0, yv18249, Value.slice none 0 0]⟩ 26 (0, 0)) :: F) w ∧ Fr 145 ([(3, rvv104), (4, rvv116), (6, Value.int .i64 y9242), (7, Value.int .i64 y16084), (9, Value.int .i64 y17877), (10, Value.bool y17878), (11, Value.pointer (some ⟨b17884, 0, none⟩))]) a ∧ RowR (ekI .i64) I16083 cs18251 y18248) ?_ ?_
                    · refine wp_block ?_
                      refine c_loop ?_
                      refine c_fuel (law19_PackFull.l2 y110 y9242 y16084) out18253 (fun (y18156, y18161) a w => ∃ yv18157 : Value, ∃ m18158 : Nat, ∃ cs18159 : List Value, Ok E I16083 (.row yv18157 3 1 m18158 cs18159 :: .blk b17884 (.cells ⟨[Value.string (⟨#[]⟩ : ByteArray), Value.int .i64 0, yv18157, Value.slice none 0 0]⟩ 26 (0, 0)) :: F) w ∧ Fr 145 ([(3, rvv104), (4, rvv116), (6, Value.int .i64 y9242), (7, Value.int .i64 y16084), (8, Value.int .i64 ((gt y110 (gt ((gt y110 y9242).kids_) y16084)).top_)), (9, Value.int .i64 y17877), (10, Value.bool y17878), (11, Value.pointer (some ⟨b17884, 0, none⟩)), (12, Value.int .i64 y18161)]) a ∧ RowR (ekI .i64) I16083 cs18159 y18156) (fun _ => rfl) ?_ BIG (([] : List Int), 0) _ _ ⟨(Value.slice none 0 0), 0, [], hw, hf.to ⟨rfl, rfl, rfl, rfl, rfl, rfl, rfl, rfl, rfl, trivial⟩, hRR17977⟩ hp
                      intro k st a w hI hp ih
                      obtain ⟨y18156, y18161⟩ := st
                      obtain ⟨yv18157, m18158, cs18159, hw, hf, hRR18160⟩ := hI
                      rw [law19_PackFull.l2] at hp
                      refine wp_seq ?_
                      obtain ⟨out18311, hp, hq18312⟩ := bind_some hp
                      refine c_cut (fun a w => ∃ y18310 : Bool, y18310 = out18311 ∧ Ok E I16083 (.row yv18157 3 1 m18158 cs18159 :: .blk b17884 (.cells ⟨[Value.string (⟨#[]⟩ : ByteArray), Value.int .i64 0, yv18157, Value.slice none 0 0]⟩ 26 (0, 0)) :: F) w ∧ Fr 145 ([(3, rvv104), (4, rvv116), (6, Value.int .i64 y9242), (7, Value.int .i64 y16084), (8, Value.int .i64 ((gt y110 (gt ((gt y110 y9242).kids_) y16084)).top_)), (9, Value.int .i64 y17877), (10, Value.bool y17878), (11, Value.pointer (some ⟨b17884, 0, none⟩)), (12, Value.int .i64 y18161), (109, Value.bool y18310)]) a) ?_ ?_
                      · refine wp_region_lit ?_
                        refine o_run hf (r_move hf rfl) rfl fun a hf => ?_
                        refine o_run hf (r_move hf rfl) rfl fun a hf => ?_
                        refine o_run hf (r_move hf rfl) rfl fun a hf => ?_
                        obtain ⟨hg18313, hp⟩ := gd_some hp
                        refine o_run hf (r_indexAddr (K := ek_Plan) hf el_29 rfl rfl (hR117.rd hw) hg18313) rfl fun a hf => ?_
                        refine o_run hf (r_fieldAddrH hf rfl fd_26_2) rfl fun a hf => ?_
                        obtain ⟨v18314, hR18315, hrun18316⟩ := rs_loadHX (P := P) ty_24 hR117 hg18313 rfl (fun cs h => Plan_f2 h)
                        refine o_run hf (hrun18316 _ _ _ _ _ _ _ _ _ _ _ _ hw hf rfl) rfl fun a hf => ?_
                        refine o_run hf (r_lenL (K := (ekI .i64)) hf el_24 rfl (hR18315.rd hw)) rfl fun a hf => ?_
                        refine o_run hf (r_icmp hf rfl rfl rfl) rfl fun a hf => ?_
                        refine o_run hf (r_move hf rfl) rfl fun a hf => ?_
                        refine g_split hf (g := 98) rfl (fun hb18317 hf => ?_) (fun hb18317 hf => ?_)
                        · replace hp := cond_t hb18317 hp
                          refine o_want hf (g := 98) rfl rfl ?_
                          refine o_run hf (r_move hf rfl) rfl fun a hf => ?_
                          refine o_want hf (g := 98) rfl rfl ?_
                          refine o_run hf (r_move hf rfl) rfl fun a hf => ?_
                          obtain ⟨hg18318, hp⟩ := gd_some hp
                          refine o_want hf (g := 98) rfl rfl ?_
                          refine o_run hf (r_indexAddr (K := ek_Plan) hf el_29 rfl rfl (hR117.rd hw) hg18318) rfl fun a hf => ?_
                          refine o_want hf (g := 98) rfl rfl ?_
                          refine o_run hf (r_fieldAddrH hf rfl fd_26_2) rfl fun a hf => ?_
                          obtain ⟨v18319, hR18320, hrun18321⟩ := rs_loadHX (P := P) ty_24 hR117 hg18318 rfl (fun cs h => Plan_f2 h)
                          refine o_want hf (g := 98) rfl rfl ?_
                          refine o_run hf (hrun18321 _ _ _ _ _ _ _ _ _ _ _ _ hw hf rfl) rfl fun a hf => ?_
                          refine o_want hf (g := 98) rfl rfl ?_
                          refine o_run hf (r_move hf rfl) rfl fun a hf => ?_
                          obtain ⟨hg18322, hp⟩ := gd_some hp
                          refine o_want hf (g := 98) rfl rfl ?_
                          refine o_run hf (r_indexAddr (K := (ekI .i64)) hf el_24 rfl rfl (hR18320.rd hw) hg18322) rfl fun a hf => ?_
                          refine o_want hf (g := 98) rfl rfl ?_
                          refine o_run hf (r_loadH (K := (ekI .i64)) hf rfl ty_3 (hR18320.rd hw) hg18322 rfl (fun cs h => ekI_f0 h)) rfl fun a hf => ?_
                          refine o_want hf (g := 98) rfl rfl ?_
                          refine o_run hf (r_move hf rfl) rfl fun a hf => ?_
                          refine o_want hf (g := 98) rfl rfl ?_
                          refine o_run hf (r_icmp hf rfl rfl rfl) rfl fun a hf => ?_
                          refine o_run hf (r_pickT hf rfl rfl) rfl fun a hf => ?_
                          refine o_nil ?_
                          refine c_then ?_
                          have ho := out_inj hp
                          subst ho
                          exact ⟨(decide ((gt ((gt y110 y9242).nodes_) y18161) < ((gt y110 (gt ((gt y110 y9242).kids_) y16084)).top_))), rfl, hw, hf.to ⟨rfl, rfl, rfl, rfl, rfl, rfl, rfl, rfl, rfl, rfl, trivial⟩⟩
                        · replace hp := cond_f hb18317 hp
                          refine o_skip hf (g := 98) rfl rfl rfl rfl rfl rfl fun a hf => ?_
                          refine o_skip hf (g := 98) rfl rfl rfl rfl rfl rfl fun a hf => ?_
                          refine o_skip hf (g := 98) rfl rfl rfl rfl rfl rfl fun a hf => ?_
                          refine o_skip hf (g := 98) rfl rfl rfl rfl rfl rfl fun a hf => ?_
                          refine o_skip hf (g := 98) rfl rfl rfl rfl rfl rfl fun a hf => ?_
                          refine o_skip hf (g := 98) rfl rfl rfl rfl rfl rfl fun a hf => ?_
                          refine o_skip hf (g := 98) rfl rfl rfl rfl rfl rfl fun a hf => ?_
                          refine o_skip hf (g := 98) rfl rfl rfl rfl rfl rfl fun a hf => ?_
                          refine o_skip hf (g := 98) rfl rfl rfl rfl rfl rfl fun a hf => ?_
                          refine o_skip hf (g := 98) rfl rfl rfl rfl rfl rfl fun a hf => ?_
                          refine o_run hf (r_pickF hf rfl rfl) rfl fun a hf => ?_
                          refine o_nil ?_
                          refine c_then ?_
                          have ho := out_inj hp
                          subst ho
                          exact ⟨false, rfl, hw, hf.to ⟨rfl, rfl, rfl, rfl, rfl, rfl, rfl, rfl, rfl, rfl, trivial⟩⟩
                      · intro a w hM
                        obtain ⟨y18310, rfl, hw, hf⟩ := hM
                        replace hp := hq18312
                        refine c_cond hf rfl (fun hb18323 => ?_) (fun hb18323 => ?_)
                        · replace hp := cond_t hb18323 hp
                          refine wp_skip ?_
                          refine c_then ?_
                          refine wp_seq ?_
                          refine wp_block ?_
                          refine c_drawn mix [13] (.rd 0 (.rd 1 (.rd 2 (.rd 3 (.rd 4 (.rd 5 (.rd 6 (.rd 7 (.rd 8 (.rd 9 (.ef 10 (.ef 11 (.rd 12 (.ef 13 .done)))))))))))))) (by kernel_rfl) hw (fun w => Ok E I16083 (.blk b17884 (.cells ⟨[Value.string (⟨#[]⟩ : ByteArray), Value.int .i64 0, yv18157, Value.slice none 0 0]⟩ 26 (0, 0)) :: F) w) (fun w hw => ⟨hw.sub (List.Sublist.cons _ (List.Sublist.cons_cons _ (List.Sublist.refl _))), ?_⟩)
                          refine t_rd rfl hf (fun w hw => r_fieldAddr hf rfl fd_26_2) rfl fun a hf => ?_
                          refine t_rd rfl hf (fun w hw => r_load hw hf rfl ty_24 0 rfl rfl) rfl fun a hf => ?_
                          refine t_rd rfl hf (fun w hw => r_move hf rfl) rfl fun a hf => ?_
                          refine t_rd rfl hf (fun w hw => r_move hf rfl) rfl fun a hf => ?_
                          obtain ⟨hg18325, hp⟩ := gd_some hp
                          refine t_rd rfl hf (fun w hw => r_indexAddr (K := ek_Plan) hf el_29 rfl rfl (hR117.rd hw) hg18325) rfl fun a hf => ?_
                          refine t_rd rfl hf (fun w hw => r_fieldAddrH hf rfl fd_26_2) rfl fun a hf => ?_
                          obtain ⟨v18326, hR18327, hrun18328⟩ := rs_loadHX (P := P) ty_24 hR117 hg18325 rfl (fun cs h => Plan_f2 h)
                          refine t_rd rfl hf (fun w hw => hrun18328 _ _ _ _ _ _ _ _ _ _ _ _ hw hf rfl) rfl fun a hf => ?_
                          refine t_rd rfl hf (fun w hw => r_move hf rfl) rfl fun a hf => ?_
                          obtain ⟨hg18329, hp⟩ := gd_some hp
                          refine t_rd rfl hf (fun w hw => r_indexAddr (K := (ekI .i64)) hf el_24 rfl rfl (hR18327.rd hw) hg18329) rfl fun a hf => ?_
                          refine t_rd rfl hf (fun w hw => r_loadH (K := (ekI .i64)) hf rfl ty_3 (hR18327.rd hw) hg18329 rfl (fun cs h => ekI_f0 h)) rfl fun a hf => ?_
                          refine t_ef rfl ?_
                          obtain ⟨w, v18330, hrun18331, hw, hRR18332⟩ := e_buildSlice (P := P) (K := (ekI .i64)) (m := 1) hw hf (parts := [(0, .tmp 121)]) el_24 ty_3 rfl rfl rfl (ccs := [[Value.int .i64 (gt ((gt y110 y9242).nodes_) y18161)]]) rfl (xs := [gt ((gt y110 y9242).nodes_) y18161]) ⟨rfl, trivial⟩ rfl
                          obtain ⟨cs18333, hcs⟩ : ∃ cs, cs = ([[Value.int .i64 (gt ((gt y110 y9242).nodes_) y18161)]] : List (List Value)).flatten := ⟨_, rfl⟩
                          rw [← hcs] at hw hRR18332; clear hcs
                          refine t_eff hf (hrun18331 ..) rfl fun a hf => ⟨.inr (hw.back (IH.le_refl _) (List.Sublist.cons _ (List.Sublist.cons _ (List.Sublist.cons_cons _ (List.Sublist.refl _))))), ?_⟩
                          refine t_ef rfl ?_
                          obtain ⟨hg18335, hp⟩ := gd_some hp
                          obtain ⟨w, v18336, m18337, cs18338, hrun18340, hw, hRR18339⟩ := e_append (P := P) (K := (ekI .i64)) (ty := 24) hw hf (s := .tmp 113) (x := .tmp 122) el_24 ty_3 rfl (by decide) 1 rfl rfl rfl hRR18160 (ys := [gt ((gt y110 y9242).nodes_) y18161]) (row_rd (K := (ekI .i64)) hw (i := 0) rfl hRR18332) hg18335
                          replace hw : Ok E I16083 (.row v18330 3 1 1 cs18333 :: .row v18336 3 1 m18337 cs18338 :: .blk b17884 (.cells ⟨[Value.string (⟨#[]⟩ : ByteArray), Value.int .i64 0, yv18157, Value.slice none 0 0]⟩ 26 (0, 0)) :: F) w := hw
                          refine t_eff hf (hrun18340 ..) rfl fun a hf => ⟨.inr (hw.back (IH.le_refl _) (List.Sublist.cons _ (List.Sublist.cons _ (List.Sublist.cons_cons _ (List.Sublist.refl _))))), ?_⟩
                          refine t_rd rfl hf (fun w hw => r_fieldAddr hf rfl fd_26_2) rfl fun a hf => ?_
                          refine t_ef rfl ?_
                          obtain ⟨w, hrun18341, hw⟩ := e_store (P := P) hw hf (x := .tmp 124) (y := .tmp 123) rfl rfl ty_24 2 rfl (vs := [v18336]) (one_cells (row_one hw (i := 1) rfl)) rfl (ones_cons (row_one hw (i := 1) rfl) ones_nil) (by simp [arrC_len]) (cs' := [Value.string (⟨#[]⟩ : ByteArray), Value.int .i64 0, v18336, Value.slice none 0 0]) rfl
                          replace hw : Ok E I16083 (.row v18330 3 1 1 cs18333 :: .row v18336 3 1 m18337 cs18338 :: .blk b17884 (.cells ⟨[Value.string (⟨#[]⟩ : ByteArray), Value.int .i64 0, v18336, Value.slice none 0 0]⟩ 26 (0, 0)) :: F) w := hw
                          refine t_effU (hrun18341 ..) ⟨.inl rfl, ?_⟩
                          refine t_done ?_
                          refine c_blockN ?_
                          refine c_then ?_
                          refine wp_region_lit ?_
                          refine o_run hf (r_move hf rfl) rfl fun a hf => ?_
                          refine o_run hf (r_add hf rfl rfl) rfl fun a hf => ?_
                          refine o_run hf (r_assign hf rfl) rfl fun a hf => ?_
                          refine o_nil ?_
                          refine c_then ?_
                          replace hw : Ok E I16083 (.row v18336 3 1 m18337 cs18338 :: .blk b17884 (.cells ⟨[Value.string (⟨#[]⟩ : ByteArray), Value.int .i64 0, v18336, Value.slice none 0 0]⟩ 26 (0, 0)) :: F) w := hw.sub (List.Sublist.cons _ (List.Sublist.cons_cons _ (List.Sublist.cons_cons _ (List.Sublist.refl _))))
                          exact ih (y18156 ++ [gt ((gt y110 y9242).nodes_) y18161], w64 (y18161 + 1)) _ _ ⟨v18336, m18337, cs18338, hw, hf.to ⟨rfl, rfl, rfl, rfl, rfl, rfl, rfl, rfl, rfl, trivial⟩, hRR18339⟩ hp
                        · replace hp := cond_f hb18323 hp
                          refine wp_exit ?_
                          refine c_thenE ?_
                          refine c_thenE ?_
                          refine c_exit ?_
                          refine c_then ?_
                          have ho := out_inj hp
                          subst ho
                          exact ⟨y18156, yv18157, m18158, cs18159, rfl, hw, hf.to ⟨rfl, rfl, rfl, rfl, rfl, rfl, rfl, trivial⟩, hRR18160⟩
                    · intro a w hM
                      obtain ⟨y18248, yv18249, m18250, cs18251, rfl, hw, hf, hRR18252⟩ := hM
                      replace hp := hq18254
                      refine c_then ?_
                      refine wp_seq ?_
                      refine wp_region_lit ?_
                      refine o_run hf (r_move hf rfl) rfl fun a hf => ?_
                      refine o_run hf (r_loadA hw hf rfl ty_26 1 rfl (vs := [Value.string (⟨#[]⟩ : ByteArray), Value.int .i64 0, yv18249, Value.slice none 0 0]) rfl rfl) rfl fun a hf => ?_
                      have hw : Ok E I16083 (.row yv18249 3 1 m18250 cs18251 :: .blk b17884 (.cells ⟨[Value.string (⟨#[]⟩ : ByteArray), Value.int .i64 0, yv18249, Value.slice none 0 0]⟩ 26 (0, 0)) :: F) w := hw.front (i := 0) rfl
                      obtain ⟨I18343, hle18344, hw, hR18345⟩ := row_freeze (K := (ekI .i64)) hw hRR18252
                      replace hR105 := hR105.mono hle18344
                      replace hR117 := hR117.mono hle18344
                      obtain ⟨y18349, hy18348, hp⟩ := bind_some hp
                      obtain ⟨y18346, y18347⟩ := y18349
                      have hc18350 := pack_Bytes_ok hw hR105 hR18345 (RS.nil (K := (ekI .i64))) hy18348
                      refine o_call hf cb_18 rfl rfl hc18350 (fun v18352 w a hK18351 hf => ?_)
                      obtain ⟨rfl, hw⟩ := hK18351
                      refine o_run hf (r_move hf rfl) rfl fun a hf => ?_
                      refine o_run hf (r_extract hf rfl rfl) rfl fun a hf => ?_
                      refine o_run hf (r_extract hf rfl rfl) rfl fun a hf => ?_
                      refine o_run hf (r_assign hf rfl) rfl fun a hf => ?_
                      refine o_run hf (r_assign hf rfl) rfl fun a hf => ?_
                      refine o_nil ?_
                      refine c_then ?_
                      obtain ⟨out18358, hp, hq18359⟩ := bind_some hp
                      refine c_cut (fun a w => ∃ y18357 : Bool, y18357 = out18358 ∧ Ok E I18343 (.blk b17884 (.cells ⟨[Value.string (⟨#[]⟩ : ByteArray), Value.int .i64 0, yv18249, Value.slice none 0 0]⟩ 26 (0, 0)) :: F) w ∧ Fr 145 ([(3, rvv104), (4, rvv116), (6, Value.int .i64 y9242), (7, Value.int .i64 y16084), (143, Value.bool y18357)]) a) ?_ ?_
                      · refine wp_region_lit ?_
                        refine o_run hf (r_move hf rfl) rfl fun a hf => ?_
                        refine o_run hf (r_not hf rfl) rfl fun a hf => ?_
                        refine o_run hf (r_move hf rfl) rfl fun a hf => ?_
                        refine g_split hf (g := 133) rfl (fun hb18360 hf => ?_) (fun hb18360 hf => ?_)
                        · replace hp := cond_t hb18360 hp
                          refine o_skip hf (g := 133) rfl rfl rfl rfl rfl rfl fun a hf => ?_
                          refine o_skip hf (g := 133) rfl rfl rfl rfl rfl rfl fun a hf => ?_
                          refine o_run hf (r_pickT hf rfl rfl) rfl fun a hf => ?_
                          refine o_run hf (r_move hf rfl) rfl fun a hf => ?_
                          refine o_skip hf (g := 137) rfl rfl rfl rfl rfl rfl fun a hf => ?_
                          refine o_skip hf (g := 137) rfl rfl rfl rfl rfl rfl fun a hf => ?_
                          refine o_skip hf (g := 137) rfl rfl rfl rfl rfl rfl fun a hf => ?_
                          refine o_skip hf (g := 137) rfl rfl rfl rfl rfl rfl fun a hf => ?_
                          refine o_skip hf (g := 137) rfl rfl rfl rfl rfl rfl fun a hf => ?_
                          refine o_run hf (r_pickT hf rfl rfl) rfl fun a hf => ?_
                          refine o_nil ?_
                          refine c_then ?_
                          have ho := out_inj hp
                          subst ho
                          exact ⟨true, rfl, hw, hf.to ⟨rfl, rfl, rfl, rfl, rfl, trivial⟩⟩
                        · replace hp := cond_f hb18360 hp
                          refine o_want hf (g := 133) rfl rfl ?_
                          refine o_run hf (r_move hf rfl) rfl fun a hf => ?_
                          refine o_want hf (g := 133) rfl rfl ?_
                          refine o_run hf (r_not hf rfl) rfl fun a hf => ?_
                          refine o_run hf (r_pickF hf rfl rfl) rfl fun a hf => ?_
                          refine o_run hf (r_move hf rfl) rfl fun a hf => ?_
                          refine g_split hf (g := 137) rfl (fun hb18361 hf => ?_) (fun hb18361 hf => ?_)
                          · replace hp := cond_t hb18361 hp
                            refine o_skip hf (g := 137) rfl rfl rfl rfl rfl rfl fun a hf => ?_
                            refine o_skip hf (g := 137) rfl rfl rfl rfl rfl rfl fun a hf => ?_
                            refine o_skip hf (g := 137) rfl rfl rfl rfl rfl rfl fun a hf => ?_
                            refine o_skip hf (g := 137) rfl rfl rfl rfl rfl rfl fun a hf => ?_
                            refine o_skip hf (g := 137) rfl rfl rfl rfl rfl rfl fun a hf => ?_
                            refine o_run hf (r_pickT hf rfl rfl) rfl fun a hf => ?_
                            refine o_nil ?_
                            refine c_then ?_
                            have ho := out_inj hp
                            subst ho
                            exact ⟨true, rfl, hw, hf.to ⟨rfl, rfl, rfl, rfl, rfl, trivial⟩⟩
                          · replace hp := cond_f hb18361 hp
                            refine o_want hf (g := 137) rfl rfl ?_
                            refine o_run hf (r_move hf rfl) rfl fun a hf => ?_
                            refine o_want hf (g := 137) rfl rfl ?_
                            refine o_run hf (r_move hf rfl) rfl fun a hf => ?_
                            refine o_want hf (g := 137) rfl rfl ?_
                            refine o_run hf (r_add hf rfl rfl) rfl fun a hf => ?_
                            refine o_want hf (g := 137) rfl rfl ?_
                            refine o_run hf (r_sub hf rfl rfl) rfl fun a hf => ?_
                            refine o_want hf (g := 137) rfl rfl ?_
                            refine o_run hf (r_icmp hf rfl rfl rfl) rfl fun a hf => ?_
                            refine o_run hf (r_pickF hf rfl rfl) rfl fun a hf => ?_
                            refine o_nil ?_
                            refine c_then ?_
                            have ho := out_inj hp
                            subst ho
                            exact ⟨(decide ((w64 ((w64 (y18346 + y17877)) - 3)) ≤ 243)), rfl, hw, hf.to ⟨rfl, rfl, rfl, rfl, rfl, trivial⟩⟩
                      · intro a w hM
                        obtain ⟨y18357, rfl, hw, hf⟩ := hM
                        replace hp := hq18359
                        refine c_cond hf rfl (fun hb18362 => ?_) (fun hb18362 => ?_)
                        · replace hp := cond_t hb18362 hp
                          refine wp_seq ?_
                          refine wp_region_lit ?_
                          refine o_run hf (r_assign hf rfl) rfl fun a hf => ?_
                          refine o_nil ?_
                          refine c_then ?_
                          refine wp_ret ?_
                          refine c_blockR ?_
                          refine c_thenR ?_
                          refine c_thenR ?_
                          refine c_blockR ?_
                          refine c_thenR ?_
                          have ho := out_inj hp
                          subst ho
                          replace hp := hq17224
                          refine c_blockR ?_
                          refine c_thenR ?_
                          refine c_thenR ?_
                          refine c_blockR ?_
                          refine c_thenR ?_
                          have ho := out_inj hp
                          subst ho
                          replace hp := hq13804
                          refine c_thenR ?_
                          replace hw : Ok E I18343 (F) w := hw.sub (List.Sublist.cons _ (List.Sublist.refl _))
                          have ho := out_inj hp
                          subst ho
                          exact b_ret1 hf Go.Proofs.Try.results5 rfl ⟨_, rfl, ⟨rfl, (hw.back (IH.le_trans (IH.le_trans (IH.le_trans (IH.le_trans hle109 hle119) hle13805) hle17225) hle18344) (List.Sublist.refl _))⟩⟩
                        · replace hp := cond_f hb18362 hp
                          refine wp_skip ?_
                          refine c_blockN ?_
                          refine c_then ?_
                          refine wp_region_lit ?_
                          refine o_run hf (r_move hf rfl) rfl fun a hf => ?_
                          refine o_run hf (r_add hf rfl rfl) rfl fun a hf => ?_
                          refine o_run hf (r_assign hf rfl) rfl fun a hf => ?_
                          refine o_nil ?_
                          refine c_then ?_
                          replace hw : Ok E I18343 (F) w := hw.sub (List.Sublist.cons _ (List.Sublist.refl _))
                          exact ih (w64 (y16084 + 1)) _ _ ⟨I18343, (IH.le_trans hle17225 hle18344), hw, hf.to ⟨rfl, rfl, rfl, rfl, trivial⟩⟩ hp
              · replace hp := cond_f hb17230 hp
                refine wp_exit ?_
                refine c_thenE ?_
                refine c_thenE ?_
                refine c_exit ?_
                refine c_then ?_
                have ho := out_inj hp
                subst ho
                exact ⟨I16083, rfl, hle17225, hw, hf.to ⟨rfl, rfl, rfl, trivial⟩⟩
            · intro a w hM
              obtain ⟨I17222, rfl, hle18363, hw, hf⟩ := hM
              replace hp := hq17224
              replace hR105 := hR105.mono hle18363
              replace hR117 := hR117.mono hle18363
              refine c_blockN ?_
              refine c_then ?_
              refine wp_region_lit ?_
              refine o_run hf (r_move hf rfl) rfl fun a hf => ?_
              refine o_run hf (r_add hf rfl rfl) rfl fun a hf => ?_
              refine o_run hf (r_assign hf rfl) rfl fun a hf => ?_
              refine o_nil ?_
              refine c_then ?_
              exact ih (w64 (y9242 + 1)) _ _ ⟨I17222, (IH.le_trans hle13805 hle18363), hw, hf.to ⟨rfl, rfl, rfl, trivial⟩⟩ hp
          · replace hp := cond_f hb13806 hp
            refine wp_exit ?_
            refine c_thenE ?_
            refine c_thenE ?_
            refine c_exit ?_
            refine c_then ?_
            have ho := out_inj hp
            subst ho
            exact ⟨I9241, rfl, hle13805, hw, hf.to trivial⟩
        · intro a w hM
          obtain ⟨I13802, rfl, hle18365, hw, hf⟩ := hM
          replace hp := hq13804
          refine c_then ?_
          refine wp_seq ?_
          refine wp_region_lit ?_
          obtain ⟨y18366, hy18367, hp⟩ := bind_some hp
          have hc18369 := law19_wakes_ok hw hy18367
          refine o_call hf cb_13 rfl rfl hc18369 (fun v18371 w a hK18370 hf => ?_)
          obtain ⟨rfl, hw⟩ := hK18370
          refine o_run hf (r_assign hf rfl) rfl fun a hf => ?_
          refine o_nil ?_
          refine c_then ?_
          refine wp_ret ?_
          have ho := out_inj hp
          subst ho
          exact b_ret1 hf Go.Proofs.Try.results5 rfl ⟨_, rfl, ⟨rfl, (hw.back (IH.le_trans (IH.le_trans hle109 hle119) hle18365) (List.Sublist.refl _))⟩⟩
end Go.Lf
