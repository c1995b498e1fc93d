/- The Go functions compute the plain Lean functions (printed by our lift.py). -/
import Derived.Test.YtckhmgglgbnaaaaDoorZD
import Derived.Test.YtckhmgglgbnaaaaDoorZF
import Derived.Test.YtckhmgglgbnaaaaDoorJ
import Derived.Test.YtckhmgglgbnaaaaDoorZK0
import Derived.Test.YtckhmgglgbnaaaaDoorZK1
import Derived.Test.YtckhmgglgbnaaaaDoorZK6
import Derived.Test.YtckhmgglgbnaaaaDoorZK8
import Derived.Test.YtckhmgglgbnaaaaDoorZK9
import Derived.Test.YtckhmgglgbnaaaaDoorZK10
set_option linter.unusedVariables false
set_option linter.unusedSimpArgs false
namespace Go.Lf
open Go
set_option maxHeartbeats 1000000 in
set_option maxRecDepth 20000 in
theorem law11_RootItems_ok {E : World} {I : IH} {F : List Atom} {w : World} {a0 : List Pair} {a0v2204 : Value} {res0 : Bool} (hw : Ok E I (F) w) (hG : Gl I) (hR2205 : RS ek_Pair I a0v2204 a0) (hp : law11_RootItems.f a0 = some res0) :
    Calls P 5 ⟨[a0v2204]⟩ w fun e w' => ∃ v, e = .returned v ∧ v = Value.bool res0 ∧ Ok E I (F) w' := by
  refine c_enter Go.Proofs.Tryd.func5 rfl Go.Proofs.Tryd.ntmps5 rfl fun a hf => ?_
  replace hf : Fr 151 [(0, a0v2204)] a := hf
  unfold law11_RootItems.f at hp
  refine wp_seq ?_
  refine wp_region_lit ?_
  refine o_run hf (r_assign hf rfl) rfl fun a hf => ?_
  refine o_nil ?_
  refine c_then ?_
  refine wp_seq ?_
  obtain ⟨out82, hp, hq83⟩ := bind_some hp
  refine c_cut (fun a w => ∃ y81 : Bool, y81 = out82 ∧ Ok E I (F) w ∧ Fr 151 ([(0, a0v2204), (27, Value.bool y81)]) a) ?_ ?_
  · refine wp_region_lit ?_
    refine o_run hf (r_move hf rfl) rfl fun a hf => ?_
    obtain ⟨y84, hy85, hp⟩ := bind_some hp
    have hc87 := keep_LongPairs_ok hw hG hR2205 hy85
    refine o_call hf cb_24 rfl rfl hc87 (fun v89 w a hK88 hf => ?_)
    obtain ⟨rfl, hw⟩ := hK88
    refine o_run hf (r_move hf rfl) rfl fun a hf => ?_
    refine g_split hf (g := 18) rfl (fun hb90 hf => ?_) (fun hb90 hf => ?_)
    · replace hp := cond_t hb90 hp
      refine o_skip hf (g := 18) rfl rfl rfl rfl rfl rfl fun a hf => ?_
      refine o_skip hf (g := 18) rfl rfl rfl rfl rfl rfl fun a hf => ?_
      refine o_skip hf (g := 18) rfl rfl rfl rfl rfl rfl fun a hf => ?_
      refine o_run hf (r_pickT hf rfl rfl) rfl fun a hf => ?_
      refine o_run hf (r_move hf rfl) rfl fun a hf => ?_
      refine o_skip hf (g := 23) rfl rfl rfl rfl rfl rfl fun a hf => ?_
      refine o_skip hf (g := 23) rfl rfl rfl rfl rfl rfl fun a hf => ?_
      refine o_skip hf (g := 23) rfl rfl rfl rfl rfl rfl fun a hf => ?_
      refine o_run hf (r_pickT hf rfl rfl) rfl fun a hf => ?_
      refine o_nil ?_
      refine c_then ?_
      have ho := out_inj hp
      subst ho
      exact ⟨true, rfl, hw, hf.to ⟨rfl, rfl, trivial⟩⟩
    · replace hp := cond_f hb90 hp
      refine o_want hf (g := 18) rfl rfl ?_
      refine o_run hf (r_move hf rfl) rfl fun a hf => ?_
      refine o_want hf (g := 18) rfl rfl ?_
      obtain ⟨y91, hy92, hp⟩ := bind_some hp
      have hc94 := ref10_May_ok hw hG hR2205 hy92
      refine o_call hf cb_25 rfl rfl hc94 (fun v96 w a hK95 hf => ?_)
      obtain ⟨rfl, hw⟩ := hK95
      refine o_want hf (g := 18) rfl rfl ?_
      refine o_run hf (r_not hf rfl) rfl fun a hf => ?_
      refine o_run hf (r_pickF hf rfl rfl) rfl fun a hf => ?_
      refine o_run hf (r_move hf rfl) rfl fun a hf => ?_
      refine g_split hf (g := 23) rfl (fun hb97 hf => ?_) (fun hb97 hf => ?_)
      · replace hp := cond_t hb97 hp
        refine o_skip hf (g := 23) rfl rfl rfl rfl rfl rfl fun a hf => ?_
        refine o_skip hf (g := 23) rfl rfl rfl rfl rfl rfl fun a hf => ?_
        refine o_skip hf (g := 23) rfl rfl rfl rfl rfl rfl fun a hf => ?_
        refine o_run hf (r_pickT hf rfl rfl) rfl fun a hf => ?_
        refine o_nil ?_
        refine c_then ?_
        have ho := out_inj hp
        subst ho
        exact ⟨true, rfl, hw, hf.to ⟨rfl, rfl, trivial⟩⟩
      · replace hp := cond_f hb97 hp
        refine o_want hf (g := 23) rfl rfl ?_
        refine o_run hf (r_move hf rfl) rfl fun a hf => ?_
        refine o_want hf (g := 23) rfl rfl ?_
        refine o_run hf (r_lenL (K := ek_Pair) hf el_45 rfl (hR2205.rd hw)) rfl fun a hf => ?_
        refine o_want hf (g := 23) rfl rfl ?_
        refine o_run hf (r_icmp hf rfl rfl rfl) rfl fun a hf => ?_
        refine o_run hf (r_pickF hf rfl rfl) rfl fun a hf => ?_
        refine o_nil ?_
        refine c_then ?_
        have ho := out_inj hp
        subst ho
        exact ⟨(decide ((a0.length : Int) > 12)), rfl, hw, hf.to ⟨rfl, rfl, trivial⟩⟩
  · intro a w hM
    obtain ⟨y81, rfl, hw, hf⟩ := hM
    replace hp := hq83
    refine c_cond hf rfl (fun hb98 => ?_) (fun hb98 => ?_)
    · replace hp := cond_t hb98 hp
      refine wp_seq ?_
      refine wp_region_lit ?_
      obtain ⟨y99, hy100, hp⟩ := bind_some hp
      have hc102 := law11_wakes_ok hw hG hy100
      refine o_call hf cb_13 rfl rfl hc102 (fun v104 w a hK103 hf => ?_)
      obtain ⟨rfl, hw⟩ := hK103
      refine o_run hf (r_assign hf rfl) rfl fun a hf => ?_
      refine o_nil ?_
      refine c_then ?_
      refine wp_ret ?_
      refine c_thenR ?_
      have ho := out_inj hp
      subst ho
      exact b_ret1 hf Go.Proofs.Tryd.results5 rfl ⟨_, rfl, ⟨rfl, hw⟩⟩
    · replace hp := cond_f hb98 hp
      refine wp_skip ?_
      refine c_then ?_
      refine wp_seq ?_
      refine wp_region_lit ?_
      refine o_run hf (r_move hf rfl) rfl fun a hf => ?_
      obtain ⟨y105, hy106, hp⟩ := bind_some hp
      have hc108 := ref10_Build_ok hw hG hR2205 hy106
      refine o_call hf cb_26 rfl rfl hc108 (fun v114 w a hK109 hf => ?_)
      obtain ⟨I2_109, rvv110, rvv112, rfl, hle115, hw, hR111, hR113⟩ := hK109
      replace hG := hG.mono hle115
      replace hR2205 := hR2205.mono hle115
      refine o_run hf (r_field hf rfl fd_48_0 ty_23 rfl) rfl fun a hf => ?_
      refine o_run hf (r_assign hf rfl) rfl fun a hf => ?_
      refine o_nil ?_
      refine c_then ?_
      refine wp_seq ?_
      refine wp_region_lit ?_
      refine o_run hf (r_move hf rfl) rfl fun a hf => ?_
      obtain ⟨y119, hy118, hp⟩ := bind_some hp
      obtain ⟨y116, y117⟩ := y119
      have hc120 := root_All_ok hw hG hR111 hy118
      refine o_call hf cb_15 rfl rfl hc120 (fun v124 w a hK121 hf => ?_)
      obtain ⟨I2_121, rvv122, rfl, hle125, hw, hR123⟩ := hK121
      replace hG := hG.mono hle125
      replace hR2205 := hR2205.mono hle125
      replace hR111 := hR111.mono hle125
      replace hR113 := hR113.mono hle125
      refine o_run hf (r_move hf rfl) rfl fun a hf => ?_
      refine o_run hf (r_extract hf rfl rfl) rfl fun a hf => ?_
      refine o_run hf (r_extract hf rfl rfl) rfl fun a hf => ?_
      refine o_run hf (r_assign hf rfl) rfl fun a hf => ?_
      refine o_run hf (r_assign hf rfl) rfl fun a hf => ?_
      refine o_nil ?_
      refine c_then ?_
      refine wp_seq ?_
      refine wp_region_lit ?_
      refine o_run hf (r_move hf rfl) rfl fun a hf => ?_
      obtain ⟨y129, hy128, hp⟩ := bind_some hp
      obtain ⟨y126, y127⟩ := y129
      have hc130 := root_Of_ok hw hG hR111 hy128
      refine o_call hf cb_14 rfl rfl hc130 (fun v132 w a hK131 hf => ?_)
      obtain ⟨rfl, hw⟩ := hK131
      refine o_run hf (r_move hf rfl) rfl fun a hf => ?_
      refine o_run hf (r_extract hf rfl rfl) rfl fun a hf => ?_
      refine o_run hf (r_extract hf rfl rfl) rfl fun a hf => ?_
      refine o_run hf (r_assign hf rfl) rfl fun a hf => ?_
      refine o_run hf (r_assign hf rfl) rfl fun a hf => ?_
      refine o_nil ?_
      refine c_then ?_
      refine wp_seq ?_
      obtain ⟨out163, hp, hq164⟩ := bind_some hp
      refine c_cut (fun a w => ∃ y162 : Bool, y162 = out163 ∧ Ok E I2_121 (F) w ∧ Fr 151 ([(3, rvv110), (4, rvv122), (66, Value.bool y162)]) a) ?_ ?_
      · refine wp_region_lit ?_
        refine o_run hf (r_move hf rfl) rfl fun a hf => ?_
        refine o_run hf (r_not hf rfl) rfl fun a hf => ?_
        refine o_run hf (r_move hf rfl) rfl fun a hf => ?_
        refine g_split hf (g := 44) rfl (fun hb165 hf => ?_) (fun hb165 hf => ?_)
        · replace hp := cond_t hb165 hp
          refine o_skip hf (g := 44) rfl rfl rfl rfl rfl rfl fun a hf => ?_
          refine o_skip hf (g := 44) rfl rfl rfl rfl rfl rfl fun a hf => ?_
          refine o_run hf (r_pickT hf rfl rfl) rfl fun a hf => ?_
          refine o_run hf (r_move hf rfl) rfl fun a hf => ?_
          refine o_skip hf (g := 48) rfl rfl rfl rfl rfl rfl fun a hf => ?_
          refine o_skip hf (g := 48) rfl rfl rfl rfl rfl rfl fun a hf => ?_
          refine o_skip hf (g := 48) rfl rfl rfl rfl rfl rfl fun a hf => ?_
          refine o_skip hf (g := 48) rfl rfl rfl rfl rfl rfl fun a hf => ?_
          refine o_skip hf (g := 48) rfl rfl rfl rfl rfl rfl fun a hf => ?_
          refine o_run hf (r_pickT hf rfl rfl) rfl fun a hf => ?_
          refine o_run hf (r_move hf rfl) rfl fun a hf => ?_
          refine o_skip hf (g := 55) rfl rfl rfl rfl rfl rfl fun a hf => ?_
          refine o_skip hf (g := 55) rfl rfl rfl rfl rfl rfl fun a hf => ?_
          refine o_skip hf (g := 55) rfl rfl rfl rfl rfl rfl fun a hf => ?_
          refine o_skip hf (g := 55) rfl rfl rfl rfl rfl rfl fun a hf => ?_
          refine o_skipU hf (g := 59) rfl rfl rfl rfl rfl fun a hf => ?_
          refine o_skipU hf (g := 59) rfl rfl rfl rfl rfl fun a hf => ?_
          refine o_skipU hf (g := 59) rfl rfl rfl rfl rfl fun a hf => ?_
          refine o_skipU hf (g := 59) rfl rfl rfl rfl rfl fun a hf => ?_
          refine o_skipU hf (g := 59) rfl rfl rfl rfl rfl fun a hf => ?_
          refine o_skip hf (g := 55) rfl rfl rfl rfl rfl rfl fun a hf => ?_
          refine o_run hf (r_pickT hf rfl rfl) rfl fun a hf => ?_
          refine o_nil ?_
          refine c_then ?_
          have ho := out_inj hp
          subst ho
          exact ⟨true, rfl, hw, hf.to ⟨rfl, rfl, rfl, trivial⟩⟩
        · replace hp := cond_f hb165 hp
          refine o_want hf (g := 44) rfl rfl ?_
          refine o_run hf (r_move hf rfl) rfl fun a hf => ?_
          refine o_want hf (g := 44) rfl rfl ?_
          refine o_run hf (r_not hf rfl) rfl fun a hf => ?_
          refine o_run hf (r_pickF hf rfl rfl) rfl fun a hf => ?_
          refine o_run hf (r_move hf rfl) rfl fun a hf => ?_
          refine g_split hf (g := 48) rfl (fun hb166 hf => ?_) (fun hb166 hf => ?_)
          · replace hp := cond_t hb166 hp
            refine o_skip hf (g := 48) rfl rfl rfl rfl rfl rfl fun a hf => ?_
            refine o_skip hf (g := 48) rfl rfl rfl rfl rfl rfl fun a hf => ?_
            refine o_skip hf (g := 48) rfl rfl rfl rfl rfl rfl fun a hf => ?_
            refine o_skip hf (g := 48) rfl rfl rfl rfl rfl rfl fun a hf => ?_
            refine o_skip hf (g := 48) rfl rfl rfl rfl rfl rfl fun a hf => ?_
            refine o_run hf (r_pickT hf rfl rfl) rfl fun a hf => ?_
            refine o_run hf (r_move hf rfl) rfl fun a hf => ?_
            refine o_skip hf (g := 55) rfl rfl rfl rfl rfl rfl fun a hf => ?_
            refine o_skip hf (g := 55) rfl rfl rfl rfl rfl rfl fun a hf => ?_
            refine o_skip hf (g := 55) rfl rfl rfl rfl rfl rfl fun a hf => ?_
            refine o_skip hf (g := 55) rfl rfl rfl rfl rfl rfl fun a hf => ?_
            refine o_skipU hf (g := 59) rfl rfl rfl rfl rfl fun a hf => ?_
            refine o_skipU hf (g := 59) rfl rfl rfl rfl rfl fun a hf => ?_
            refine o_skipU hf (g := 59) rfl rfl rfl rfl rfl fun a hf => ?_
            refine o_skipU hf (g := 59) rfl rfl rfl rfl rfl fun a hf => ?_
            refine o_skipU hf (g := 59) rfl rfl rfl rfl rfl fun a hf => ?_
            refine o_skip hf (g := 55) rfl rfl rfl rfl rfl rfl fun a hf => ?_
            refine o_run hf (r_pickT hf rfl rfl) rfl fun a hf => ?_
            refine o_nil ?_
            refine c_then ?_
            have ho := out_inj hp
            subst ho
            exact ⟨true, rfl, hw, hf.to ⟨rfl, rfl, rfl, trivial⟩⟩
          · replace hp := cond_f hb166 hp
            refine o_want hf (g := 48) rfl rfl ?_
            refine o_run hf (r_move hf rfl) rfl fun a hf => ?_
            refine o_want hf (g := 48) rfl rfl ?_
            refine o_run hf (r_lenL (K := ekS) hf el_28 rfl (hR123.rd hw)) rfl fun a hf => ?_
            refine o_want hf (g := 48) rfl rfl ?_
            refine o_run hf (r_move hf rfl) rfl fun a hf => ?_
            refine o_want hf (g := 48) rfl rfl ?_
            refine o_run hf (r_lenL (K := ek_Node) hf el_23 rfl (hR111.rd hw)) rfl fun a hf => ?_
            refine o_want hf (g := 48) rfl rfl ?_
            refine o_run hf (r_icmp hf rfl rfl rfl) rfl fun a hf => ?_
            refine o_run hf (r_pickF hf rfl rfl) rfl fun a hf => ?_
            refine o_run hf (r_move hf rfl) rfl fun a hf => ?_
            refine g_split hf (g := 55) rfl (fun hb167 hf => ?_) (fun hb167 hf => ?_)
            · replace hp := cond_t hb167 hp
              refine o_skip hf (g := 55) rfl rfl rfl rfl rfl rfl fun a hf => ?_
              refine o_skip hf (g := 55) rfl rfl rfl rfl rfl rfl fun a hf => ?_
              refine o_skip hf (g := 55) rfl rfl rfl rfl rfl rfl fun a hf => ?_
              refine o_skip hf (g := 55) rfl rfl rfl rfl rfl rfl fun a hf => ?_
              refine o_skipU hf (g := 59) rfl rfl rfl rfl rfl fun a hf => ?_
              refine o_skipU hf (g := 59) rfl rfl rfl rfl rfl fun a hf => ?_
              refine o_skipU hf (g := 59) rfl rfl rfl rfl rfl fun a hf => ?_
              refine o_skipU hf (g := 59) rfl rfl rfl rfl rfl fun a hf => ?_
              refine o_skipU hf (g := 59) rfl rfl rfl rfl rfl fun a hf => ?_
              refine o_skip hf (g := 55) rfl rfl rfl rfl rfl rfl fun a hf => ?_
              refine o_run hf (r_pickT hf rfl rfl) rfl fun a hf => ?_
              refine o_nil ?_
              refine c_then ?_
              have ho := out_inj hp
              subst ho
              exact ⟨true, rfl, hw, hf.to ⟨rfl, rfl, rfl, trivial⟩⟩
            · replace hp := cond_f hb167 hp
              refine o_want hf (g := 55) rfl rfl ?_
              refine o_run hf (r_move hf rfl) rfl fun a hf => ?_
              refine o_want hf (g := 55) rfl rfl ?_
              refine o_run hf (r_lenL (K := ek_Node) hf el_23 rfl (hR111.rd hw)) rfl fun a hf => ?_
              refine o_want hf (g := 55) rfl rfl ?_
              refine o_run hf (r_icmp hf rfl rfl rfl) rfl fun a hf => ?_
              refine o_want hf (g := 55) rfl rfl ?_
              refine o_run hf (r_move hf rfl) rfl fun a hf => ?_
              refine g_split hf (g := 59) rfl (fun hb168 hf => ?_) (fun hb168 hf => ?_)
              · replace hp := cond_t hb168 hp
                refine o_want hf (g := 59) rfl rfl ?_
                refine o_run hf (r_move hf rfl) rfl fun a hf => ?_
                refine o_want hf (g := 59) rfl rfl ?_
                refine o_run hf (r_move hf rfl) rfl fun a hf => ?_
                obtain ⟨hg169, hp⟩ := gd_some hp
                refine o_want hf (g := 59) rfl rfl ?_
                refine o_run hf (r_indexAddr (K := ekS) hf el_28 rfl rfl (hR123.rd hw) hg169) rfl fun a hf => ?_
                refine o_want hf (g := 59) rfl rfl ?_
                refine o_run hf (r_loadH (K := ekS) hf rfl ty_9 (hR123.rd hw) hg169 rfl (fun cs h => ekS_f0 h)) rfl fun a hf => ?_
                refine o_want hf (g := 59) rfl rfl ?_
                refine o_run hf (r_scmp hf rfl rfl rfl) rfl fun a hf => ?_
                refine o_want hf (g := 55) rfl rfl ?_
                refine o_run hf (r_pickT hf rfl rfl) rfl fun a hf => ?_
                refine o_run hf (r_pickF hf rfl rfl) rfl fun a hf => ?_
                refine o_nil ?_
                refine c_then ?_
                have ho := out_inj hp
                subst ho
                exact ⟨(!(seq_ y126 (gt y116 0))), rfl, hw, hf.to ⟨rfl, rfl, rfl, trivial⟩⟩
              · replace hp := cond_f hb168 hp
                refine o_skip hf (g := 59) rfl rfl rfl rfl rfl rfl fun a hf => ?_
                refine o_skip hf (g := 59) rfl rfl rfl rfl rfl rfl fun a hf => ?_
                refine o_skip hf (g := 59) rfl rfl rfl rfl rfl rfl fun a hf => ?_
                refine o_skip hf (g := 59) rfl rfl rfl rfl rfl rfl fun a hf => ?_
                refine o_skip hf (g := 59) rfl rfl rfl rfl rfl rfl fun a hf => ?_
                refine o_want hf (g := 55) rfl rfl ?_
                refine o_run hf (r_pickF hf rfl rfl) rfl fun a hf => ?_
                refine o_run hf (r_pickF hf rfl rfl) rfl fun a hf => ?_
                refine o_nil ?_
                refine c_then ?_
                have ho := out_inj hp
                subst ho
                exact ⟨false, rfl, hw, hf.to ⟨rfl, rfl, rfl, trivial⟩⟩
      · intro a w hM
        obtain ⟨y162, rfl, hw, hf⟩ := hM
        replace hp := hq164
        refine c_cond hf rfl (fun hb170 => ?_) (fun hb170 => ?_)
        · replace hp := cond_t hb170 hp
          refine wp_seq ?_
          refine wp_region_lit ?_
          refine o_run hf (r_assign hf rfl) rfl fun a hf => ?_
          refine o_nil ?_
          refine c_then ?_
          refine wp_ret ?_
          refine c_thenR ?_
          have ho := out_inj hp
          subst ho
          exact b_ret1 hf Go.Proofs.Tryd.results5 rfl ⟨_, rfl, ⟨rfl, (hw.back (IH.le_trans hle115 hle125) (List.Sublist.refl _))⟩⟩
        · replace hp := cond_f hb170 hp
          refine wp_skip ?_
          refine c_then ?_
          refine wp_seq ?_
          refine wp_seq ?_
          refine wp_region_lit ?_
          refine o_run hf (r_assign hf rfl) rfl fun a hf => ?_
          refine o_nil ?_
          refine c_then ?_
          obtain ⟨out3563, hp, hq3564⟩ := bind_some hp
          refine c_cutX (fun a w => ∃ I3562 : IH, (.inl ()) = out3563 ∧ IH.le I2_121 I3562 ∧ Ok E I3562 (F) w ∧ Fr 151 ([]) a) ?_ ?_
          · refine wp_block ?_
            refine c_loop ?_
            refine c_fuel (law11_RootItems.l0 y105 y116) out3563 (fun (y2432 : Int) a w => ∃ I2431 : IH, IH.le I2_121 I2431 ∧ Ok E I2431 (F) w ∧ Fr 151 ([(3, rvv110), (4, rvv122), (8, Value.int .i64 y2432)]) a) (fun _ => rfl) ?_ BIG 0 _ _ ⟨I2_121, (IH.le_refl _), hw, hf.to ⟨rfl, rfl, rfl, trivial⟩⟩ hp
            intro k y2432 a w hI hp ih
            obtain ⟨I2431, hle3565, hw, hf⟩ := hI
            rw [law11_RootItems.l0] at hp
            replace hG := hG.mono hle3565
            replace hR111 := hR111.mono hle3565
            replace hR123 := hR123.mono hle3565
            refine wp_seq ?_
            refine wp_seq ?_
            refine wp_region_lit ?_
            refine o_run hf (r_move hf rfl) rfl fun a hf => ?_
            refine o_run hf (r_move hf rfl) rfl fun a hf => ?_
            refine o_run hf (r_lenL (K := ek_Node) hf el_23 rfl (hR111.rd hw)) rfl fun a hf => ?_
            refine o_run hf (r_icmp hf rfl rfl rfl) rfl fun a hf => ?_
            refine o_nil ?_
            refine c_then ?_
            refine c_cond hf rfl (fun hb3566 => ?_) (fun hb3566 => ?_)
            · replace hp := cond_t hb3566 hp
              refine wp_skip ?_
              refine c_then ?_
              refine wp_seq ?_
              refine wp_block ?_
              refine wp_seq ?_
              refine wp_region_lit ?_
              refine o_run hf (r_move hf rfl) rfl fun a hf => ?_
              refine o_run hf (r_move hf rfl) rfl fun a hf => ?_
              obtain ⟨y4134, hy4133, hp⟩ := bind_some hp
              obtain ⟨y4131, y4132⟩ := y4134
              have hc4135 := root_Item_ok hw hG hR111 hy4133
              refine o_call hf cb_16 rfl rfl hc4135 (fun v4139 w a hK4136 hf => ?_)
              obtain ⟨I2_4136, rvv4137, rfl, hle4140, hw, hR4138⟩ := hK4136
              replace hG := hG.mono hle4140
              replace hR111 := hR111.mono hle4140
              replace hR123 := hR123.mono hle4140
              refine o_run hf (r_move hf rfl) rfl fun a hf => ?_
              refine o_run hf (r_extract hf rfl rfl) rfl fun a hf => ?_
              refine o_run hf (r_extract hf rfl rfl) rfl fun a hf => ?_
              obtain ⟨b4141, w, hrun4142, hw⟩ := e_alloc (P := P) (a := a) hw ty_32
              replace hw : Ok E I2_4136 (.blk b4141 (.cells ⟨[Value.int .i64 0, Value.string (⟨#[]⟩ : ByteArray), Value.bool false, Value.string (⟨#[]⟩ : ByteArray), Value.int .i64 0, Value.slice none 0 0]⟩ 32 (0, 0)) :: F) w := hw
              refine o_eff hf (hrun4142 ..) rfl fun a hf => ?_
              obtain ⟨w, hrun4144, hw⟩ := e_store (P := P) hw hf (x := .tmp 9) (y := .tmp 77) rfl rfl ty_32 0 rfl (vs := [Value.int .i64 y4131.kind_, Value.string y4131.path_, Value.bool y4131.has_, Value.string y4131.value_, Value.int .i64 y4131.mask_, rvv4137]) rfl rfl (ones_cons rfl (ones_cons rfl (ones_cons rfl (ones_cons rfl (ones_cons rfl (ones_cons hR4138.one ones_nil)))))) (by simp [arrC_len]) (cs' := [Value.int .i64 y4131.kind_, Value.string y4131.path_, Value.bool y4131.has_, Value.string y4131.value_, Value.int .i64 y4131.mask_, rvv4137]) rfl
              replace hw : Ok E I2_4136 (.blk b4141 (.cells ⟨[Value.int .i64 y4131.kind_, Value.string y4131.path_, Value.bool y4131.has_, Value.string y4131.value_, Value.int .i64 y4131.mask_, rvv4137]⟩ 32 (0, 0)) :: F) w := hw
              refine o_effU (hrun4144 ..) ?_
              refine o_run hf (r_assign hf rfl) rfl fun a hf => ?_
              refine o_nil ?_
              refine c_then ?_
              refine wp_seq ?_
              refine wp_region_lit ?_
              refine o_run hf (r_loadA hw hf rfl ty_32 0 rfl (vs := [Value.int .i64 y4131.kind_, Value.string y4131.path_, Value.bool y4131.has_, Value.string y4131.value_, Value.int .i64 y4131.mask_, rvv4137]) rfl rfl) rfl fun a hf => ?_
              obtain ⟨y4148, hy4147, hp⟩ := bind_some hp
              obtain ⟨y4145, y4146⟩ := y4148
              have hc4149 := node_Hash_ok hw hG hR4138 hy4147
              refine o_call hf cb_29 rfl rfl hc4149 (fun v4151 w a hK4150 hf => ?_)
              obtain ⟨rfl, hw⟩ := hK4150
              refine o_run hf (r_move hf rfl) rfl fun a hf => ?_
              refine o_run hf (r_extract hf rfl rfl) rfl fun a hf => ?_
              refine o_run hf (r_extract hf rfl rfl) rfl fun a hf => ?_
              refine o_run hf (r_assign hf rfl) rfl fun a hf => ?_
              refine o_run hf (r_assign hf rfl) rfl fun a hf => ?_
              refine o_nil ?_
              refine c_then ?_
              refine wp_seq ?_
              obtain ⟨out4207, hp, hq4208⟩ := bind_some hp
              refine c_cut (fun a w => ∃ y4206 : Bool, y4206 = out4207 ∧ Ok E I2_4136 (.blk b4141 (.cells ⟨[Value.int .i64 y4131.kind_, Value.string y4131.path_, Value.bool y4131.has_, Value.string y4131.value_, Value.int .i64 y4131.mask_, rvv4137]⟩ 32 (0, 0)) :: F) w ∧ Fr 151 ([(3, rvv110), (4, rvv122), (8, Value.int .i64 y2432), (9, Value.pointer (some ⟨b4141, 0, none⟩)), (102, Value.bool y4206)]) a) ?_ ?_
              · refine wp_region_lit ?_
                refine o_run hf (r_move hf rfl) rfl fun a hf => ?_
                refine o_run hf (r_not hf rfl) rfl fun a hf => ?_
                refine o_run hf (r_move hf rfl) rfl fun a hf => ?_
                refine g_split hf (g := 86) rfl (fun hb4209 hf => ?_) (fun hb4209 hf => ?_)
                · replace hp := cond_t hb4209 hp
                  refine o_skip hf (g := 86) rfl rfl rfl rfl rfl rfl fun a hf => ?_
                  refine o_skip hf (g := 86) rfl rfl rfl rfl rfl rfl fun a hf => ?_
                  refine o_run hf (r_pickT hf rfl rfl) rfl fun a hf => ?_
                  refine o_run hf (r_move hf rfl) rfl fun a hf => ?_
                  refine o_skip hf (g := 90) rfl rfl rfl rfl rfl rfl fun a hf => ?_
                  refine o_skip hf (g := 90) rfl rfl rfl rfl rfl rfl fun a hf => ?_
                  refine o_skip hf (g := 90) rfl rfl rfl rfl rfl rfl fun a hf => ?_
                  refine o_skip hf (g := 90) rfl rfl rfl rfl rfl rfl fun a hf => ?_
                  refine o_skip hf (g := 90) rfl rfl rfl rfl rfl rfl fun a hf => ?_
                  refine o_skip hf (g := 90) rfl rfl rfl rfl rfl rfl fun a hf => ?_
                  refine o_run hf (r_pickT hf rfl rfl) rfl fun a hf => ?_
                  refine o_run hf (r_move hf rfl) rfl fun a hf => ?_
                  refine o_skip hf (g := 98) rfl rfl rfl rfl rfl rfl fun a hf => ?_
                  refine o_skip hf (g := 98) rfl rfl rfl rfl rfl rfl fun a hf => ?_
                  refine o_skip hf (g := 98) rfl rfl rfl rfl rfl rfl fun a hf => ?_
                  refine o_run hf (r_pickT hf rfl rfl) rfl fun a hf => ?_
                  refine o_nil ?_
                  refine c_then ?_
                  have ho := out_inj hp
                  subst ho
                  exact ⟨true, rfl, hw, hf.to ⟨rfl, rfl, rfl, rfl, rfl, trivial⟩⟩
                · replace hp := cond_f hb4209 hp
                  refine o_want hf (g := 86) rfl rfl ?_
                  refine o_run hf (r_move hf rfl) rfl fun a hf => ?_
                  refine o_want hf (g := 86) rfl rfl ?_
                  refine o_run hf (r_not hf rfl) rfl fun a hf => ?_
                  refine o_run hf (r_pickF hf rfl rfl) rfl fun a hf => ?_
                  refine o_run hf (r_move hf rfl) rfl fun a hf => ?_
                  refine g_split hf (g := 90) rfl (fun hb4210 hf => ?_) (fun hb4210 hf => ?_)
                  · replace hp := cond_t hb4210 hp
                    refine o_skip hf (g := 90) rfl rfl rfl rfl rfl rfl fun a hf => ?_
                    refine o_skip hf (g := 90) rfl rfl rfl rfl rfl rfl fun a hf => ?_
                    refine o_skip hf (g := 90) rfl rfl rfl rfl rfl rfl fun a hf => ?_
                    refine o_skip hf (g := 90) rfl rfl rfl rfl rfl rfl fun a hf => ?_
                    refine o_skip hf (g := 90) rfl rfl rfl rfl rfl rfl fun a hf => ?_
                    refine o_skip hf (g := 90) rfl rfl rfl rfl rfl rfl fun a hf => ?_
                    refine o_run hf (r_pickT hf rfl rfl) rfl fun a hf => ?_
                    refine o_run hf (r_move hf rfl) rfl fun a hf => ?_
                    refine o_skip hf (g := 98) rfl rfl rfl rfl rfl rfl fun a hf => ?_
                    refine o_skip hf (g := 98) rfl rfl rfl rfl rfl rfl fun a hf => ?_
                    refine o_skip hf (g := 98) rfl rfl rfl rfl rfl rfl fun a hf => ?_
                    refine o_run hf (r_pickT hf rfl rfl) rfl fun a hf => ?_
                    refine o_nil ?_
                    refine c_then ?_
                    have ho := out_inj hp
                    subst ho
                    exact ⟨true, rfl, hw, hf.to ⟨rfl, rfl, rfl, rfl, rfl, trivial⟩⟩
                  · replace hp := cond_f hb4210 hp
                    refine o_want hf (g := 90) rfl rfl ?_
                    refine o_run hf (r_move hf rfl) rfl fun a hf => ?_
                    refine o_want hf (g := 90) rfl rfl ?_
                    refine o_run hf (r_move hf rfl) rfl fun a hf => ?_
                    refine o_want hf (g := 90) rfl rfl ?_
                    refine o_run hf (r_move hf rfl) rfl fun a hf => ?_
                    obtain ⟨hg4211, hp⟩ := gd_some hp
                    refine o_want hf (g := 90) rfl rfl ?_
                    refine o_run hf (r_indexAddr (K := ekS) hf el_28 rfl rfl (hR123.rd hw) hg4211) rfl fun a hf => ?_
                    refine o_want hf (g := 90) rfl rfl ?_
                    refine o_run hf (r_loadH (K := ekS) hf rfl ty_9 (hR123.rd hw) hg4211 rfl (fun cs h => ekS_f0 h)) rfl fun a hf => ?_
                    refine o_want hf (g := 90) rfl rfl ?_
                    refine o_run hf (r_scmp hf rfl rfl rfl) rfl fun a hf => ?_
                    refine o_run hf (r_pickF hf rfl rfl) rfl fun a hf => ?_
                    refine o_run hf (r_move hf rfl) rfl fun a hf => ?_
                    refine g_split hf (g := 98) rfl (fun hb4212 hf => ?_) (fun hb4212 hf => ?_)
                    · replace hp := cond_t hb4212 hp
                      refine o_skip hf (g := 98) rfl rfl rfl rfl rfl rfl fun a hf => ?_
                      refine o_skip hf (g := 98) rfl rfl rfl rfl rfl rfl fun a hf => ?_
                      refine o_skip hf (g := 98) rfl rfl rfl rfl rfl rfl fun a hf => ?_
                      refine o_run hf (r_pickT hf rfl rfl) rfl fun a hf => ?_
                      refine o_nil ?_
                      refine c_then ?_
                      have ho := out_inj hp
                      subst ho
                      exact ⟨true, rfl, hw, hf.to ⟨rfl, rfl, rfl, rfl, rfl, trivial⟩⟩
                    · replace hp := cond_f hb4212 hp
                      refine o_want hf (g := 98) rfl rfl ?_
                      refine o_run hf (r_loadA hw hf rfl ty_32 0 rfl (vs := [Value.int .i64 y4131.kind_, Value.string y4131.path_, Value.bool y4131.has_, Value.string y4131.value_, Value.int .i64 y4131.mask_, rvv4137]) rfl rfl) rfl fun a hf => ?_
                      refine o_want hf (g := 98) rfl rfl ?_
                      obtain ⟨y4213, hy4214, hp⟩ := bind_some hp
                      have hc4216 := node_Good_ok hw hG hR4138 hy4214
                      refine o_call hf cb_30 rfl rfl hc4216 (fun v4218 w a hK4217 hf => ?_)
                      obtain ⟨rfl, hw⟩ := hK4217
                      refine o_want hf (g := 98) rfl rfl ?_
                      refine o_run hf (r_not hf rfl) rfl fun a hf => ?_
                      refine o_run hf (r_pickF hf rfl rfl) rfl fun a hf => ?_
                      refine o_nil ?_
                      refine c_then ?_
                      have ho := out_inj hp
                      subst ho
                      exact ⟨(!y4213), rfl, hw, hf.to ⟨rfl, rfl, rfl, rfl, rfl, trivial⟩⟩
              · intro a w hM
                obtain ⟨y4206, rfl, hw, hf⟩ := hM
                replace hp := hq4208
                refine c_cond hf rfl (fun hb4219 => ?_) (fun hb4219 => ?_)
                · replace hp := cond_t hb4219 hp
                  refine wp_seq ?_
                  refine wp_region_lit ?_
                  refine o_run hf (r_assign hf rfl) rfl fun a hf => ?_
                  refine o_nil ?_
                  refine c_then ?_
                  refine wp_ret ?_
                  refine c_thenR ?_
                  refine c_blockR ?_
                  refine c_thenR ?_
                  refine c_thenR ?_
                  refine c_blockR ?_
                  refine c_thenR ?_
                  have ho := out_inj hp
                  subst ho
                  replace hp := hq3564
                  refine c_thenR ?_
                  replace hw : Ok E I2_4136 (F) w := hw.sub (List.Sublist.cons _ (List.Sublist.refl _))
                  have ho := out_inj hp
                  subst ho
                  exact b_ret1 hf Go.Proofs.Tryd.results5 rfl ⟨_, rfl, ⟨rfl, (hw.back (IH.le_trans (IH.le_trans (IH.le_trans hle115 hle125) hle3565) hle4140) (List.Sublist.refl _))⟩⟩
                · replace hp := cond_f hb4219 hp
                  refine wp_skip ?_
                  refine c_then ?_
                  refine wp_seq ?_
                  refine wp_region_lit ?_
                  refine o_run hf (r_assign hf rfl) rfl fun a hf => ?_
                  refine o_nil ?_
                  refine c_then ?_
                  refine wp_seq ?_
                  refine wp_seq ?_
                  refine wp_region_lit ?_
                  refine o_run hf (r_assign hf rfl) rfl fun a hf => ?_
                  refine o_nil ?_
                  refine c_then ?_
                  obtain ⟨out4573, hp, hq4574⟩ := bind_some hp
                  refine c_cutX (fun a w => ∃ y4572 : Int, (.inl y4572) = out4573 ∧ Ok E I2_4136 (.blk b4141 (.cells ⟨[Value.int .i64 y4131.kind_, Value.string y4131.path_, Value.bool y4131.has_, Value.string y4131.value_, Value.int .i64 y4131.mask_, rvv4137]⟩ 32 (0, 0)) :: F) w ∧ Fr 151 ([(3, rvv110), (4, rvv122), (8, Value.int .i64 y2432), (9, Value.pointer (some ⟨b4141, 0, none⟩)), (13, Value.int .i64 y4572)]) a) ?_ ?_
                  · refine wp_block ?_
                    refine c_loop ?_
                    refine c_fuel (law11_RootItems.l1 y105 y116 y2432 y4131) out4573 (fun (y4454, y4455) a w => Ok E I2_4136 (.blk b4141 (.cells ⟨[Value.int .i64 y4131.kind_, Value.string y4131.path_, Value.bool y4131.has_, Value.string y4131.value_, Value.int .i64 y4131.mask_, rvv4137]⟩ 32 (0, 0)) :: F) w ∧ Fr 151 ([(3, rvv110), (4, rvv122), (8, Value.int .i64 y2432), (9, Value.pointer (some ⟨b4141, 0, none⟩)), (13, Value.int .i64 y4454), (14, Value.int .i64 y4455)]) a) (fun _ => rfl) ?_ BIG (0, 0) _ _ ⟨hw, hf.to ⟨rfl, rfl, rfl, rfl, rfl, rfl, trivial⟩⟩ hp
                    intro k st a w hI hp ih
                    obtain ⟨y4454, y4455⟩ := st
                    obtain ⟨hw, hf⟩ := hI
                    rw [law11_RootItems.l1] at hp
                    refine wp_seq ?_
                    refine wp_seq ?_
                    refine wp_region_lit ?_
                    refine o_run hf (r_move hf rfl) rfl fun a hf => ?_
                    refine o_run hf (r_icmp hf rfl rfl rfl) rfl fun a hf => ?_
                    refine o_nil ?_
                    refine c_then ?_
                    refine c_cond hf rfl (fun hb4576 => ?_) (fun hb4576 => ?_)
                    · replace hp := cond_t hb4576 hp
                      refine wp_skip ?_
                      refine c_then ?_
                      obtain ⟨out4652, hp, hq4653⟩ := bind_some hp
                      refine c_cut (fun a w => ∃ y4651 : Int, (.inl y4651) = out4652 ∧ Ok E I2_4136 (.blk b4141 (.cells ⟨[Value.int .i64 y4131.kind_, Value.string y4131.path_, Value.bool y4131.has_, Value.string y4131.value_, Value.int .i64 y4131.mask_, rvv4137]⟩ 32 (0, 0)) :: F) w ∧ Fr 151 ([(3, rvv110), (4, rvv122), (8, Value.int .i64 y2432), (9, Value.pointer (some ⟨b4141, 0, none⟩)), (13, Value.int .i64 y4651), (14, Value.int .i64 y4455)]) a) ?_ ?_
                      · refine wp_block ?_
                        refine wp_seq ?_
                        refine wp_region_lit ?_
                        refine o_run hf (r_move hf rfl) rfl fun a hf => ?_
                        refine o_run hf (r_move hf rfl) rfl fun a hf => ?_
                        refine o_run hf (r_move hf rfl) rfl fun a hf => ?_
                        obtain ⟨hg4654, hp⟩ := gd_some hp
                        refine o_run hf (r_indexAddr (K := ek_Node) hf el_23 rfl rfl (hR111.rd hw) hg4654) rfl fun a hf => ?_
                        refine o_run hf (r_fieldAddrH hf rfl fd_55_4) rfl fun a hf => ?_
                        obtain ⟨hg4655, hp⟩ := gd_some hp
                        refine o_run hf (r_indexAddrAH hf el_53 rfl rfl hg4655) rfl fun a hf => ?_
                        refine o_run hf (r_loadH (K := ek_Node) hf rfl ty_3 (hR111.rd hw) hg4654 (Nat.add_assoc ..) (fun cs h => Node_at h hg4655)) rfl fun a hf => ?_
                        refine o_run hf (r_assign hf rfl) rfl fun a hf => ?_
                        refine o_nil ?_
                        refine c_then ?_
                        refine wp_seq ?_
                        refine wp_seq ?_
                        refine wp_region_lit ?_
                        refine o_run hf (r_move hf rfl) rfl fun a hf => ?_
                        refine o_run hf (r_icmp hf rfl rfl rfl) rfl fun a hf => ?_
                        refine o_run hf (r_fieldAddr hf rfl fd_32_4) rfl fun a hf => ?_
                        refine o_run hf (r_load hw hf rfl ty_3 0 rfl rfl) rfl fun a hf => ?_
                        refine o_run hf (r_move hf rfl) rfl fun a hf => ?_
                        refine o_run hf (r_convI hf und_3 und_56 rfl) rfl fun a hf => ?_
                        obtain ⟨hg4656, hp⟩ := gd_some hp
                        refine o_run hf (r_shr hf rfl rfl hg4656) rfl fun a hf => ?_
                        refine o_run hf (r_and hf rfl rfl) rfl fun a hf => ?_
                        refine o_run hf (r_icmp hf rfl rfl rfl) rfl fun a hf => ?_
                        refine o_run hf (r_bne hf und_4 rfl rfl) rfl fun a hf => ?_
                        refine o_nil ?_
                        refine c_then ?_
                        refine c_cond hf rfl (fun hb4657 => ?_) (fun hb4657 => ?_)
                        · replace hp := cond_t hb4657 hp
                          refine wp_seq ?_
                          refine wp_region_lit ?_
                          refine o_run hf (r_assign hf rfl) rfl fun a hf => ?_
                          refine o_nil ?_
                          refine c_then ?_
                          refine wp_ret ?_
                          refine c_thenR ?_
                          refine c_blockR ?_
                          refine c_thenR ?_
                          have ho := out_inj hp
                          subst ho
                          replace hp := hq4653
                          refine c_thenR ?_
                          refine c_blockR ?_
                          refine c_thenR ?_
                          have ho := out_inj hp
                          subst ho
                          replace hp := hq4574
                          refine c_thenR ?_
                          refine c_blockR ?_
                          refine c_thenR ?_
                          refine c_thenR ?_
                          refine c_blockR ?_
                          refine c_thenR ?_
                          have ho := out_inj hp
                          subst ho
                          replace hp := hq3564
                          refine c_thenR ?_
                          replace hw : Ok E I2_4136 (F) w := hw.sub (List.Sublist.cons _ (List.Sublist.refl _))
                          have ho := out_inj hp
                          subst ho
                          exact b_ret1 hf Go.Proofs.Tryd.results5 rfl ⟨_, rfl, ⟨rfl, (hw.back (IH.le_trans (IH.le_trans (IH.le_trans hle115 hle125) hle3565) hle4140) (List.Sublist.refl _))⟩⟩
                        · replace hp := cond_f hb4657 hp
                          refine wp_skip ?_
                          refine c_then ?_
                          refine wp_seq ?_
                          refine wp_region_lit ?_
                          refine o_run hf (r_move hf rfl) rfl fun a hf => ?_
                          refine o_run hf (r_icmp hf rfl rfl rfl) rfl fun a hf => ?_
                          refine o_nil ?_
                          refine c_then ?_
                          refine c_cond hf rfl (fun hb4658 => ?_) (fun hb4658 => ?_)
                          · replace hp := cond_t hb4658 hp
                            refine wp_seq ?_
                            obtain ⟨out4684, hp, hq4685⟩ := bind_some hp
                            refine c_cut (fun a w => ∃ y4683 : Bool, y4683 = out4684 ∧ Ok E I2_4136 (.blk b4141 (.cells ⟨[Value.int .i64 y4131.kind_, Value.string y4131.path_, Value.bool y4131.has_, Value.string y4131.value_, Value.int .i64 y4131.mask_, rvv4137]⟩ 32 (0, 0)) :: F) w ∧ Fr 151 ([(3, rvv110), (4, rvv122), (8, Value.int .i64 y2432), (9, Value.pointer (some ⟨b4141, 0, none⟩)), (13, Value.int .i64 y4454), (14, Value.int .i64 y4455), (142, Value.bool y4683)]) a) ?_ ?_
                            · refine c_drawn mix [] (.rd 0 (.rd 1 (.rd 2 (.rd 3 (.rd 4 (.rd 5 (.rd 6 (.rd 7 (.rd 8 (.rd 9 (.rd 10 (.rd 11 (.rd 12 (.rd 13 (.rd 14 (.rd 15 (.rd 16 .done))))))))))))))))) (by kernel_rfl) hw (fun w => Ok E I2_4136 (.blk b4141 (.cells ⟨[Value.int .i64 y4131.kind_, Value.string y4131.path_, Value.bool y4131.has_, Value.string y4131.value_, Value.int .i64 y4131.mask_, rvv4137]⟩ 32 (0, 0)) :: F) w) (fun w hw => ⟨hw.sub (List.Sublist.cons_cons _ (List.Sublist.refl _)), ?_⟩)
                              refine t_rd rfl hf (fun w hw => r_move hf rfl) rfl fun a hf => ?_
                              refine t_rd rfl hf (fun w hw => r_fieldAddr hf rfl fd_32_5) rfl fun a hf => ?_
                              refine t_rd rfl hf (fun w hw => r_load hw hf rfl ty_28 0 rfl rfl) rfl fun a hf => ?_
                              refine t_rd rfl hf (fun w hw => r_lenL (K := ekS) hf el_28 rfl (hR4138.rd hw)) rfl fun a hf => ?_
                              refine t_rd rfl hf (fun w hw => r_icmp hf rfl rfl rfl) rfl fun a hf => ?_
                              refine t_rd rfl hf (fun w hw => r_move hf rfl) rfl fun a hf => ?_
                              refine g_split hf (g := 131) rfl (fun hb4687 hf => ?_) (fun hb4687 hf => ?_)
                              · replace hp := cond_t hb4687 hp
                                refine t_rdS rfl rfl hf rfl rfl rfl fun a hf => ?_
                                refine t_rdS rfl rfl hf rfl rfl rfl fun a hf => ?_
                                refine t_rdS rfl rfl hf rfl rfl rfl fun a hf => ?_
                                refine t_rdS rfl rfl hf rfl rfl rfl fun a hf => ?_
                                refine t_rdS rfl rfl hf rfl rfl rfl fun a hf => ?_
                                refine t_rdS rfl rfl hf rfl rfl rfl fun a hf => ?_
                                refine t_rdS rfl rfl hf rfl rfl rfl fun a hf => ?_
                                refine t_rdS rfl rfl hf rfl rfl rfl fun a hf => ?_
                                refine t_rdS rfl rfl hf rfl rfl rfl fun a hf => ?_
                                refine t_rdS rfl rfl hf rfl rfl rfl fun a hf => ?_
                                refine t_rd rfl hf (fun w hw => r_pickT hf rfl rfl) rfl fun a hf => ?_
                                refine t_done ?_
                                refine c_then ?_
                                have ho := out_inj hp
                                subst ho
                                exact ⟨true, rfl, hw, hf.to ⟨rfl, rfl, rfl, rfl, rfl, rfl, rfl, trivial⟩⟩
                              · replace hp := cond_f hb4687 hp
                                refine t_rdG rfl rfl hf rfl (fun w hw => r_fieldAddr hf rfl fd_32_5) rfl fun a hf => ?_
                                refine t_rdG rfl rfl hf rfl (fun w hw => r_load hw hf rfl ty_28 0 rfl rfl) rfl fun a hf => ?_
                                refine t_rdG rfl rfl hf rfl (fun w hw => r_move hf rfl) rfl fun a hf => ?_
                                obtain ⟨hg4688, hp⟩ := gd_some hp
                                refine t_rdG rfl rfl hf rfl (fun w hw => r_indexAddr (K := ekS) hf el_28 rfl rfl (hR4138.rd hw) hg4688) rfl fun a hf => ?_
                                refine t_rdG rfl rfl hf rfl (fun w hw => r_loadH (K := ekS) hf rfl ty_9 (hR4138.rd hw) hg4688 rfl (fun cs h => ekS_f0 h)) rfl fun a hf => ?_
                                refine t_rdG rfl rfl hf rfl (fun w hw => r_move hf rfl) rfl fun a hf => ?_
                                refine t_rdG rfl rfl hf rfl (fun w hw => r_move hf rfl) rfl fun a hf => ?_
                                obtain ⟨hg4689, hp⟩ := gd_some hp
                                refine t_rdG rfl rfl hf rfl (fun w hw => r_indexAddr (K := ekS) hf el_28 rfl rfl (hR123.rd hw) hg4689) rfl fun a hf => ?_
                                refine t_rdG rfl rfl hf rfl (fun w hw => r_loadH (K := ekS) hf rfl ty_9 (hR123.rd hw) hg4689 rfl (fun cs h => ekS_f0 h)) rfl fun a hf => ?_
                                refine t_rdG rfl rfl hf rfl (fun w hw => r_scmp hf rfl rfl rfl) rfl fun a hf => ?_
                                refine t_rd rfl hf (fun w hw => r_pickF hf rfl rfl) rfl fun a hf => ?_
                                refine t_done ?_
                                refine c_then ?_
                                have ho := out_inj hp
                                subst ho
                                exact ⟨(!(seq_ (gt y4131.hashes_ y4454) (gt y116 (vg (gt y105.t_ y2432).kids_ y4455)))), rfl, hw, hf.to ⟨rfl, rfl, rfl, rfl, rfl, rfl, rfl, trivial⟩⟩
                            · intro a w hM
                              obtain ⟨y4683, rfl, hw, hf⟩ := hM
                              replace hp := hq4685
                              refine c_cond hf rfl (fun hb4690 => ?_) (fun hb4690 => ?_)
                              · replace hp := cond_t hb4690 hp
                                refine wp_seq ?_
                                refine wp_region_lit ?_
                                refine o_run hf (r_assign hf rfl) rfl fun a hf => ?_
                                refine o_nil ?_
                                refine c_then ?_
                                refine wp_ret ?_
                                refine c_thenR ?_
                                refine c_blockR ?_
                                refine c_thenR ?_
                                have ho := out_inj hp
                                subst ho
                                replace hp := hq4653
                                refine c_thenR ?_
                                refine c_blockR ?_
                                refine c_thenR ?_
                                have ho := out_inj hp
                                subst ho
                                replace hp := hq4574
                                refine c_thenR ?_
                                refine c_blockR ?_
                                refine c_thenR ?_
                                refine c_thenR ?_
                                refine c_blockR ?_
                                refine c_thenR ?_
                                have ho := out_inj hp
                                subst ho
                                replace hp := hq3564
                                refine c_thenR ?_
                                replace hw : Ok E I2_4136 (F) w := hw.sub (List.Sublist.cons _ (List.Sublist.refl _))
                                have ho := out_inj hp
                                subst ho
                                exact b_ret1 hf Go.Proofs.Tryd.results5 rfl ⟨_, rfl, ⟨rfl, (hw.back (IH.le_trans (IH.le_trans (IH.le_trans hle115 hle125) hle3565) hle4140) (List.Sublist.refl _))⟩⟩
                              · replace hp := cond_f hb4690 hp
                                refine wp_skip ?_
                                refine c_then ?_
                                refine wp_region_lit ?_
                                refine o_run hf (r_move hf rfl) rfl fun a hf => ?_
                                refine o_run hf (r_add hf rfl rfl) rfl fun a hf => ?_
                                refine o_run hf (r_assign hf rfl) rfl fun a hf => ?_
                                refine o_nil ?_
                                refine c_blockN ?_
                                refine c_then ?_
                                have ho := out_inj hp
                                subst ho
                                exact ⟨(w64 (y4454 + 1)), rfl, hw, hf.to ⟨rfl, rfl, rfl, rfl, rfl, rfl, trivial⟩⟩
                          · replace hp := cond_f hb4658 hp
                            refine wp_skip ?_
                            refine c_blockN ?_
                            refine c_then ?_
                            have ho := out_inj hp
                            subst ho
                            exact ⟨y4454, rfl, hw, hf.to ⟨rfl, rfl, rfl, rfl, rfl, rfl, trivial⟩⟩
                      · intro a w hM
                        obtain ⟨y4651, rfl, hw, hf⟩ := hM
                        replace hp := hq4653
                        refine wp_region_lit ?_
                        refine o_run hf (r_move hf rfl) rfl fun a hf => ?_
                        refine o_run hf (r_add hf rfl rfl) rfl fun a hf => ?_
                        refine o_run hf (r_assign hf rfl) rfl fun a hf => ?_
                        refine o_nil ?_
                        refine c_then ?_
                        exact ih (y4651, w64 (y4455 + 1)) _ _ ⟨hw, hf.to ⟨rfl, rfl, rfl, rfl, rfl, rfl, trivial⟩⟩ hp
                    · replace hp := cond_f hb4576 hp
                      refine wp_exit ?_
                      refine c_thenE ?_
                      refine c_thenE ?_
                      refine c_exit ?_
                      refine c_then ?_
                      have ho := out_inj hp
                      subst ho
                      exact ⟨y4454, rfl, hw, hf.to ⟨rfl, rfl, rfl, rfl, rfl, trivial⟩⟩
                  · intro a w hM
                    obtain ⟨y4572, rfl, hw, hf⟩ := hM
                    replace hp := hq4574
                    refine c_then ?_
                    refine wp_seq ?_
                    refine wp_region_lit ?_
                    refine o_run hf (r_move hf rfl) rfl fun a hf => ?_
                    refine o_run hf (r_fieldAddr hf rfl fd_32_5) rfl fun a hf => ?_
                    refine o_run hf (r_load hw hf rfl ty_28 0 rfl rfl) rfl fun a hf => ?_
                    refine o_run hf (r_lenL (K := ekS) hf el_28 rfl (hR4138.rd hw)) rfl fun a hf => ?_
                    refine o_run hf (r_icmp hf rfl rfl rfl) rfl fun a hf => ?_
                    refine o_nil ?_
                    refine c_then ?_
                    refine c_cond hf rfl (fun hb4693 => ?_) (fun hb4693 => ?_)
                    · replace hp := cond_t hb4693 hp
                      refine wp_seq ?_
                      refine wp_region_lit ?_
                      refine o_run hf (r_assign hf rfl) rfl fun a hf => ?_
                      refine o_nil ?_
                      refine c_then ?_
                      refine wp_ret ?_
                      refine c_blockR ?_
                      refine c_thenR ?_
                      refine c_thenR ?_
                      refine c_blockR ?_
                      refine c_thenR ?_
                      have ho := out_inj hp
                      subst ho
                      replace hp := hq3564
                      refine c_thenR ?_
                      replace hw : Ok E I2_4136 (F) w := hw.sub (List.Sublist.cons _ (List.Sublist.refl _))
                      have ho := out_inj hp
                      subst ho
                      exact b_ret1 hf Go.Proofs.Tryd.results5 rfl ⟨_, rfl, ⟨rfl, (hw.back (IH.le_trans (IH.le_trans (IH.le_trans hle115 hle125) hle3565) hle4140) (List.Sublist.refl _))⟩⟩
                    · replace hp := cond_f hb4693 hp
                      refine wp_skip ?_
                      refine c_blockN ?_
                      refine c_then ?_
                      refine wp_region_lit ?_
                      refine o_run hf (r_move hf rfl) rfl fun a hf => ?_
                      refine o_run hf (r_add hf rfl rfl) rfl fun a hf => ?_
                      refine o_run hf (r_assign hf rfl) rfl fun a hf => ?_
                      refine o_nil ?_
                      refine c_then ?_
                      replace hw : Ok E I2_4136 (F) w := hw.sub (List.Sublist.cons _ (List.Sublist.refl _))
                      exact ih (w64 (y2432 + 1)) _ _ ⟨I2_4136, (IH.le_trans hle3565 hle4140), hw, hf.to ⟨rfl, rfl, rfl, trivial⟩⟩ hp
            · replace hp := cond_f hb3566 hp
              refine wp_exit ?_
              refine c_thenE ?_
              refine c_thenE ?_
              refine c_exit ?_
              refine c_then ?_
              have ho := out_inj hp
              subst ho
              exact ⟨I2431, rfl, hle3565, hw, hf.to trivial⟩
          · intro a w hM
            obtain ⟨I3562, rfl, hle4695, hw, hf⟩ := hM
            replace hp := hq3564
            replace hG := hG.mono hle4695
            refine c_then ?_
            refine wp_seq ?_
            refine wp_region_lit ?_
            obtain ⟨y4696, hy4697, hp⟩ := bind_some hp
            have hc4699 := law11_wakes_ok hw hG hy4697
            refine o_call hf cb_13 rfl rfl hc4699 (fun v4701 w a hK4700 hf => ?_)
            obtain ⟨rfl, hw⟩ := hK4700
            refine o_run hf (r_assign hf rfl) rfl fun a hf => ?_
            refine o_nil ?_
            refine c_then ?_
            refine wp_ret ?_
            have ho := out_inj hp
            subst ho
            exact b_ret1 hf Go.Proofs.Tryd.results5 rfl ⟨_, rfl, ⟨rfl, (hw.back (IH.le_trans (IH.le_trans hle115 hle125) hle4695) (List.Sublist.refl _))⟩⟩
end Go.Lf
