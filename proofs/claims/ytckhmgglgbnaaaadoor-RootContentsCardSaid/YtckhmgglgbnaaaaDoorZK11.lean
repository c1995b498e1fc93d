/- The Go functions compute the plain Lean functions (printed by our lift.py). -/
import Derived.Test.YtckhmgglgbnaaaaDoorZD
import Derived.Test.YtckhmgglgbnaaaaDoorZF
import Derived.Test.YtckhmgglgbnaaaaDoorJ
import Derived.Test.YtckhmgglgbnaaaaDoorZK0
import Derived.Test.YtckhmgglgbnaaaaDoorZK1
import Derived.Test.YtckhmgglgbnaaaaDoorZK7
import Derived.Test.YtckhmgglgbnaaaaDoorZK8
import Derived.Test.YtckhmgglgbnaaaaDoorZK9
import Derived.Test.YtckhmgglgbnaaaaDoorZK10
set_option linter.unusedVariables false
set_option linter.unusedSimpArgs false
namespace Go.Lf
open Go
set_option maxHeartbeats 1000000 in
set_option maxRecDepth 20000 in
theorem law11_RootContents_ok {E : World} {I : IH} {F : List Atom} {w : World} {a0 : List Pair} {a0v1 : Value} {a1 : List Pair} {a1v3 : Value} {res0 : Bool} (hw : Ok E I (F) w) (hG : Gl I) (hR2 : RS ek_Pair I a0v1 a0) (hR4 : RS ek_Pair I a1v3 a1) (hp : law11_RootContents.f a0 a1 = some res0) :
    Calls P 4 ⟨[a0v1, a1v3]⟩ w fun e w' => ∃ v, e = .returned v ∧ v = Value.bool res0 ∧ Ok E I (F) w' := by
  refine c_enter Go.Proofs.Tryd.func4 rfl Go.Proofs.Tryd.ntmps4 rfl fun a hf => ?_
  replace hf : Fr 181 [(0, a0v1), (1, a1v3)] a := hf
  unfold law11_RootContents.f at hp
  refine wp_seq ?_
  refine wp_region_lit ?_
  refine o_run hf (r_assign hf rfl) rfl fun a hf => ?_
  refine o_nil ?_
  refine c_then ?_
  refine wp_seq ?_
  obtain ⟨out579, hp, hq580⟩ := bind_some hp
  refine c_cut (fun a w => ∃ y578 : Bool, y578 = out579 ∧ Ok E I (F) w ∧ Fr 181 ([(0, a0v1), (1, a1v3), (50, Value.bool y578)]) a) ?_ ?_
  · refine wp_region_lit ?_
    refine o_run hf (r_move hf rfl) rfl fun a hf => ?_
    obtain ⟨y581, hy582, hp⟩ := bind_some hp
    have hc584 := keep_LongPairs_ok hw hG hR2 hy582
    refine o_call hf cb_24 rfl rfl hc584 (fun v586 w a hK585 hf => ?_)
    obtain ⟨rfl, hw⟩ := hK585
    refine o_run hf (r_move hf rfl) rfl fun a hf => ?_
    refine g_split hf (g := 27) rfl (fun hb587 hf => ?_) (fun hb587 hf => ?_)
    · replace hp := cond_t hb587 hp
      refine o_skip hf (g := 27) rfl rfl rfl rfl rfl rfl fun a hf => ?_
      refine o_skip hf (g := 27) rfl rfl rfl rfl rfl rfl fun a hf => ?_
      refine o_run hf (r_pickT hf rfl rfl) rfl fun a hf => ?_
      refine o_run hf (r_move hf rfl) rfl fun a hf => ?_
      refine o_skip hf (g := 31) rfl rfl rfl rfl rfl rfl fun a hf => ?_
      refine o_skip hf (g := 31) rfl rfl rfl rfl rfl rfl fun a hf => ?_
      refine o_skip hf (g := 31) rfl rfl rfl rfl rfl rfl fun a hf => ?_
      refine o_run hf (r_pickT hf rfl rfl) rfl fun a hf => ?_
      refine o_run hf (r_move hf rfl) rfl fun a hf => ?_
      refine o_skip hf (g := 36) rfl rfl rfl rfl rfl rfl fun a hf => ?_
      refine o_skip hf (g := 36) rfl rfl rfl rfl rfl rfl fun a hf => ?_
      refine o_skip hf (g := 36) rfl rfl rfl rfl rfl rfl fun a hf => ?_
      refine o_run hf (r_pickT hf rfl rfl) rfl fun a hf => ?_
      refine o_run hf (r_move hf rfl) rfl fun a hf => ?_
      refine o_skip hf (g := 41) rfl rfl rfl rfl rfl rfl fun a hf => ?_
      refine o_skip hf (g := 41) rfl rfl rfl rfl rfl rfl fun a hf => ?_
      refine o_skip hf (g := 41) rfl rfl rfl rfl rfl rfl fun a hf => ?_
      refine o_run hf (r_pickT hf rfl rfl) rfl fun a hf => ?_
      refine o_run hf (r_move hf rfl) rfl fun a hf => ?_
      refine o_skip hf (g := 46) rfl rfl rfl rfl rfl rfl fun a hf => ?_
      refine o_skip hf (g := 46) rfl rfl rfl rfl rfl rfl fun a hf => ?_
      refine o_skip hf (g := 46) rfl rfl rfl rfl rfl rfl fun a hf => ?_
      refine o_run hf (r_pickT hf rfl rfl) rfl fun a hf => ?_
      refine o_nil ?_
      refine c_then ?_
      have ho := out_inj hp
      subst ho
      exact ⟨true, rfl, hw, hf.to ⟨rfl, rfl, rfl, trivial⟩⟩
    · replace hp := cond_f hb587 hp
      refine o_want hf (g := 27) rfl rfl ?_
      refine o_run hf (r_move hf rfl) rfl fun a hf => ?_
      refine o_want hf (g := 27) rfl rfl ?_
      obtain ⟨y588, hy589, hp⟩ := bind_some hp
      have hc591 := keep_LongPairs_ok hw hG hR4 hy589
      refine o_call hf cb_24 rfl rfl hc591 (fun v593 w a hK592 hf => ?_)
      obtain ⟨rfl, hw⟩ := hK592
      refine o_run hf (r_pickF hf rfl rfl) rfl fun a hf => ?_
      refine o_run hf (r_move hf rfl) rfl fun a hf => ?_
      refine g_split hf (g := 31) rfl (fun hb594 hf => ?_) (fun hb594 hf => ?_)
      · replace hp := cond_t hb594 hp
        refine o_skip hf (g := 31) rfl rfl rfl rfl rfl rfl fun a hf => ?_
        refine o_skip hf (g := 31) rfl rfl rfl rfl rfl rfl fun a hf => ?_
        refine o_skip hf (g := 31) rfl rfl rfl rfl rfl rfl fun a hf => ?_
        refine o_run hf (r_pickT hf rfl rfl) rfl fun a hf => ?_
        refine o_run hf (r_move hf rfl) rfl fun a hf => ?_
        refine o_skip hf (g := 36) rfl rfl rfl rfl rfl rfl fun a hf => ?_
        refine o_skip hf (g := 36) rfl rfl rfl rfl rfl rfl fun a hf => ?_
        refine o_skip hf (g := 36) rfl rfl rfl rfl rfl rfl fun a hf => ?_
        refine o_run hf (r_pickT hf rfl rfl) rfl fun a hf => ?_
        refine o_run hf (r_move hf rfl) rfl fun a hf => ?_
        refine o_skip hf (g := 41) rfl rfl rfl rfl rfl rfl fun a hf => ?_
        refine o_skip hf (g := 41) rfl rfl rfl rfl rfl rfl fun a hf => ?_
        refine o_skip hf (g := 41) rfl rfl rfl rfl rfl rfl fun a hf => ?_
        refine o_run hf (r_pickT hf rfl rfl) rfl fun a hf => ?_
        refine o_run hf (r_move hf rfl) rfl fun a hf => ?_
        refine o_skip hf (g := 46) rfl rfl rfl rfl rfl rfl fun a hf => ?_
        refine o_skip hf (g := 46) rfl rfl rfl rfl rfl rfl fun a hf => ?_
        refine o_skip hf (g := 46) rfl rfl rfl rfl rfl rfl fun a hf => ?_
        refine o_run hf (r_pickT hf rfl rfl) rfl fun a hf => ?_
        refine o_nil ?_
        refine c_then ?_
        have ho := out_inj hp
        subst ho
        exact ⟨true, rfl, hw, hf.to ⟨rfl, rfl, rfl, trivial⟩⟩
      · replace hp := cond_f hb594 hp
        refine o_want hf (g := 31) rfl rfl ?_
        refine o_run hf (r_move hf rfl) rfl fun a hf => ?_
        refine o_want hf (g := 31) rfl rfl ?_
        obtain ⟨y595, hy596, hp⟩ := bind_some hp
        have hc598 := ref10_May_ok hw hG hR2 hy596
        refine o_call hf cb_25 rfl rfl hc598 (fun v600 w a hK599 hf => ?_)
        obtain ⟨rfl, hw⟩ := hK599
        refine o_want hf (g := 31) rfl rfl ?_
        refine o_run hf (r_not hf rfl) rfl fun a hf => ?_
        refine o_run hf (r_pickF hf rfl rfl) rfl fun a hf => ?_
        refine o_run hf (r_move hf rfl) rfl fun a hf => ?_
        refine g_split hf (g := 36) rfl (fun hb601 hf => ?_) (fun hb601 hf => ?_)
        · replace hp := cond_t hb601 hp
          refine o_skip hf (g := 36) rfl rfl rfl rfl rfl rfl fun a hf => ?_
          refine o_skip hf (g := 36) rfl rfl rfl rfl rfl rfl fun a hf => ?_
          refine o_skip hf (g := 36) rfl rfl rfl rfl rfl rfl fun a hf => ?_
          refine o_run hf (r_pickT hf rfl rfl) rfl fun a hf => ?_
          refine o_run hf (r_move hf rfl) rfl fun a hf => ?_
          refine o_skip hf (g := 41) rfl rfl rfl rfl rfl rfl fun a hf => ?_
          refine o_skip hf (g := 41) rfl rfl rfl rfl rfl rfl fun a hf => ?_
          refine o_skip hf (g := 41) rfl rfl rfl rfl rfl rfl fun a hf => ?_
          refine o_run hf (r_pickT hf rfl rfl) rfl fun a hf => ?_
          refine o_run hf (r_move hf rfl) rfl fun a hf => ?_
          refine o_skip hf (g := 46) rfl rfl rfl rfl rfl rfl fun a hf => ?_
          refine o_skip hf (g := 46) rfl rfl rfl rfl rfl rfl fun a hf => ?_
          refine o_skip hf (g := 46) rfl rfl rfl rfl rfl rfl fun a hf => ?_
          refine o_run hf (r_pickT hf rfl rfl) rfl fun a hf => ?_
          refine o_nil ?_
          refine c_then ?_
          have ho := out_inj hp
          subst ho
          exact ⟨true, rfl, hw, hf.to ⟨rfl, rfl, rfl, trivial⟩⟩
        · replace hp := cond_f hb601 hp
          refine o_want hf (g := 36) rfl rfl ?_
          refine o_run hf (r_move hf rfl) rfl fun a hf => ?_
          refine o_want hf (g := 36) rfl rfl ?_
          obtain ⟨y602, hy603, hp⟩ := bind_some hp
          have hc605 := ref10_May_ok hw hG hR4 hy603
          refine o_call hf cb_25 rfl rfl hc605 (fun v607 w a hK606 hf => ?_)
          obtain ⟨rfl, hw⟩ := hK606
          refine o_want hf (g := 36) rfl rfl ?_
          refine o_run hf (r_not hf rfl) rfl fun a hf => ?_
          refine o_run hf (r_pickF hf rfl rfl) rfl fun a hf => ?_
          refine o_run hf (r_move hf rfl) rfl fun a hf => ?_
          refine g_split hf (g := 41) rfl (fun hb608 hf => ?_) (fun hb608 hf => ?_)
          · replace hp := cond_t hb608 hp
            refine o_skip hf (g := 41) rfl rfl rfl rfl rfl rfl fun a hf => ?_
            refine o_skip hf (g := 41) rfl rfl rfl rfl rfl rfl fun a hf => ?_
            refine o_skip hf (g := 41) rfl rfl rfl rfl rfl rfl fun a hf => ?_
            refine o_run hf (r_pickT hf rfl rfl) rfl fun a hf => ?_
            refine o_run hf (r_move hf rfl) rfl fun a hf => ?_
            refine o_skip hf (g := 46) rfl rfl rfl rfl rfl rfl fun a hf => ?_
            refine o_skip hf (g := 46) rfl rfl rfl rfl rfl rfl fun a hf => ?_
            refine o_skip hf (g := 46) rfl rfl rfl rfl rfl rfl fun a hf => ?_
            refine o_run hf (r_pickT hf rfl rfl) rfl fun a hf => ?_
            refine o_nil ?_
            refine c_then ?_
            have ho := out_inj hp
            subst ho
            exact ⟨true, rfl, hw, hf.to ⟨rfl, rfl, rfl, trivial⟩⟩
          · replace hp := cond_f hb608 hp
            refine o_want hf (g := 41) rfl rfl ?_
            refine o_run hf (r_move hf rfl) rfl fun a hf => ?_
            refine o_want hf (g := 41) rfl rfl ?_
            refine o_run hf (r_lenL (K := ek_Pair) hf el_45 rfl (hR2.rd hw)) rfl fun a hf => ?_
            refine o_want hf (g := 41) rfl rfl ?_
            refine o_run hf (r_icmp hf rfl rfl rfl) rfl fun a hf => ?_
            refine o_run hf (r_pickF hf rfl rfl) rfl fun a hf => ?_
            refine o_run hf (r_move hf rfl) rfl fun a hf => ?_
            refine g_split hf (g := 46) rfl (fun hb609 hf => ?_) (fun hb609 hf => ?_)
            · replace hp := cond_t hb609 hp
              refine o_skip hf (g := 46) rfl rfl rfl rfl rfl rfl fun a hf => ?_
              refine o_skip hf (g := 46) rfl rfl rfl rfl rfl rfl fun a hf => ?_
              refine o_skip hf (g := 46) rfl rfl rfl rfl rfl rfl fun a hf => ?_
              refine o_run hf (r_pickT hf rfl rfl) rfl fun a hf => ?_
              refine o_nil ?_
              refine c_then ?_
              have ho := out_inj hp
              subst ho
              exact ⟨true, rfl, hw, hf.to ⟨rfl, rfl, rfl, trivial⟩⟩
            · replace hp := cond_f hb609 hp
              refine o_want hf (g := 46) rfl rfl ?_
              refine o_run hf (r_move hf rfl) rfl fun a hf => ?_
              refine o_want hf (g := 46) rfl rfl ?_
              refine o_run hf (r_lenL (K := ek_Pair) hf el_45 rfl (hR4.rd hw)) rfl fun a hf => ?_
              refine o_want hf (g := 46) rfl rfl ?_
              refine o_run hf (r_icmp hf rfl rfl rfl) rfl fun a hf => ?_
              refine o_run hf (r_pickF hf rfl rfl) rfl fun a hf => ?_
              refine o_nil ?_
              refine c_then ?_
              have ho := out_inj hp
              subst ho
              exact ⟨(decide ((a1.length : Int) > 12)), rfl, hw, hf.to ⟨rfl, rfl, rfl, trivial⟩⟩
  · intro a w hM
    obtain ⟨y578, rfl, hw, hf⟩ := hM
    replace hp := hq580
    refine c_cond hf rfl (fun hb610 => ?_) (fun hb610 => ?_)
    · replace hp := cond_t hb610 hp
      refine wp_seq ?_
      refine wp_region_lit ?_
      obtain ⟨y611, hy612, hp⟩ := bind_some hp
      have hc614 := law11_wakes_ok hw hG hy612
      refine o_call hf cb_13 rfl rfl hc614 (fun v616 w a hK615 hf => ?_)
      obtain ⟨rfl, hw⟩ := hK615
      refine o_run hf (r_assign hf rfl) rfl fun a hf => ?_
      refine o_nil ?_
      refine c_then ?_
      refine wp_ret ?_
      refine c_thenR ?_
      have ho := out_inj hp
      subst ho
      exact b_ret1 hf Go.Proofs.Tryd.results4 rfl ⟨_, rfl, ⟨rfl, hw⟩⟩
    · replace hp := cond_f hb610 hp
      refine wp_skip ?_
      refine c_then ?_
      refine wp_seq ?_
      refine wp_region_lit ?_
      refine o_run hf (r_move hf rfl) rfl fun a hf => ?_
      obtain ⟨y617, hy618, hp⟩ := bind_some hp
      have hc620 := ref10_Build_ok hw hG hR2 hy618
      refine o_call hf cb_26 rfl rfl hc620 (fun v626 w a hK621 hf => ?_)
      obtain ⟨I2_621, rvv622, rvv624, rfl, hle627, hw, hR623, hR625⟩ := hK621
      replace hG := hG.mono hle627
      replace hR2 := hR2.mono hle627
      replace hR4 := hR4.mono hle627
      refine o_run hf (r_field hf rfl fd_48_0 ty_23 rfl) rfl fun a hf => ?_
      refine o_run hf (r_move hf rfl) rfl fun a hf => ?_
      obtain ⟨y628, hy629, hp⟩ := bind_some hp
      have hc631 := ref10_Build_ok hw hG hR4 hy629
      refine o_call hf cb_26 rfl rfl hc631 (fun v637 w a hK632 hf => ?_)
      obtain ⟨I2_632, rvv633, rvv635, rfl, hle638, hw, hR634, hR636⟩ := hK632
      replace hG := hG.mono hle638
      replace hR2 := hR2.mono hle638
      replace hR4 := hR4.mono hle638
      replace hR623 := hR623.mono hle638
      replace hR625 := hR625.mono hle638
      refine o_run hf (r_field hf rfl fd_48_0 ty_23 rfl) rfl fun a hf => ?_
      refine o_run hf (r_assign hf rfl) rfl fun a hf => ?_
      refine o_run hf (r_assign hf rfl) rfl fun a hf => ?_
      refine o_nil ?_
      refine c_then ?_
      refine wp_seq ?_
      refine wp_region_lit ?_
      refine o_run hf (r_move hf rfl) rfl fun a hf => ?_
      obtain ⟨y642, hy641, hp⟩ := bind_some hp
      obtain ⟨y639, y640⟩ := y642
      have hc643 := root_Of_ok hw hG hR623 hy641
      refine o_call hf cb_14 rfl rfl hc643 (fun v645 w a hK644 hf => ?_)
      obtain ⟨rfl, hw⟩ := hK644
      refine o_run hf (r_move hf rfl) rfl fun a hf => ?_
      refine o_run hf (r_extract hf rfl rfl) rfl fun a hf => ?_
      refine o_run hf (r_extract hf rfl rfl) rfl fun a hf => ?_
      refine o_run hf (r_assign hf rfl) rfl fun a hf => ?_
      refine o_run hf (r_assign hf rfl) rfl fun a hf => ?_
      refine o_nil ?_
      refine c_then ?_
      refine wp_seq ?_
      refine wp_region_lit ?_
      refine o_run hf (r_move hf rfl) rfl fun a hf => ?_
      obtain ⟨y649, hy648, hp⟩ := bind_some hp
      obtain ⟨y646, y647⟩ := y649
      have hc650 := root_Of_ok hw hG hR634 hy648
      refine o_call hf cb_14 rfl rfl hc650 (fun v652 w a hK651 hf => ?_)
      obtain ⟨rfl, hw⟩ := hK651
      refine o_run hf (r_move hf rfl) rfl fun a hf => ?_
      refine o_run hf (r_extract hf rfl rfl) rfl fun a hf => ?_
      refine o_run hf (r_extract hf rfl rfl) rfl fun a hf => ?_
      refine o_run hf (r_assign hf rfl) rfl fun a hf => ?_
      refine o_run hf (r_assign hf rfl) rfl fun a hf => ?_
      refine o_nil ?_
      refine c_then ?_
      refine wp_seq ?_
      refine wp_region_lit ?_
      refine o_run hf (r_move hf rfl) rfl fun a hf => ?_
      obtain ⟨y656, hy655, hp⟩ := bind_some hp
      obtain ⟨y653, y654⟩ := y656
      have hc657 := root_All_ok hw hG hR623 hy655
      refine o_call hf cb_15 rfl rfl hc657 (fun v661 w a hK658 hf => ?_)
      obtain ⟨I2_658, rvv659, rfl, hle662, hw, hR660⟩ := hK658
      replace hG := hG.mono hle662
      replace hR2 := hR2.mono hle662
      replace hR4 := hR4.mono hle662
      replace hR623 := hR623.mono hle662
      replace hR625 := hR625.mono hle662
      replace hR634 := hR634.mono hle662
      replace hR636 := hR636.mono hle662
      refine o_run hf (r_move hf rfl) rfl fun a hf => ?_
      refine o_run hf (r_extract hf rfl rfl) rfl fun a hf => ?_
      refine o_run hf (r_extract hf rfl rfl) rfl fun a hf => ?_
      refine o_run hf (r_assign hf rfl) rfl fun a hf => ?_
      refine o_run hf (r_assign hf rfl) rfl fun a hf => ?_
      refine o_nil ?_
      refine c_then ?_
      refine wp_seq ?_
      refine wp_region_lit ?_
      refine o_run hf (r_move hf rfl) rfl fun a hf => ?_
      obtain ⟨y666, hy665, hp⟩ := bind_some hp
      obtain ⟨y663, y664⟩ := y666
      have hc667 := root_All_ok hw hG hR634 hy665
      refine o_call hf cb_15 rfl rfl hc667 (fun v671 w a hK668 hf => ?_)
      obtain ⟨I2_668, rvv669, rfl, hle672, hw, hR670⟩ := hK668
      replace hG := hG.mono hle672
      replace hR2 := hR2.mono hle672
      replace hR4 := hR4.mono hle672
      replace hR623 := hR623.mono hle672
      replace hR625 := hR625.mono hle672
      replace hR634 := hR634.mono hle672
      replace hR636 := hR636.mono hle672
      replace hR660 := hR660.mono hle672
      refine o_run hf (r_move hf rfl) rfl fun a hf => ?_
      refine o_run hf (r_extract hf rfl rfl) rfl fun a hf => ?_
      refine o_run hf (r_extract hf rfl rfl) rfl fun a hf => ?_
      refine o_run hf (r_assign hf rfl) rfl fun a hf => ?_
      refine o_run hf (r_assign hf rfl) rfl fun a hf => ?_
      refine o_nil ?_
      refine c_then ?_
      refine wp_seq ?_
      obtain ⟨out703, hp, hq704⟩ := bind_some hp
      refine c_cut (fun a w => ∃ y702 : Bool, y702 = out703 ∧ Ok E I2_668 (F) w ∧ Fr 181 ([(0, a0v1), (1, a1v3), (5, rvv622), (6, rvv633), (7, Value.string y639), (9, Value.string y646), (11, rvv659), (13, rvv669), (105, Value.bool y702)]) a) ?_ ?_
      · refine wp_region_lit ?_
        refine o_run hf (r_move hf rfl) rfl fun a hf => ?_
        refine o_run hf (r_not hf rfl) rfl fun a hf => ?_
        refine o_run hf (r_move hf rfl) rfl fun a hf => ?_
        refine g_split hf (g := 80) rfl (fun hb705 hf => ?_) (fun hb705 hf => ?_)
        · replace hp := cond_t hb705 hp
          refine o_skip hf (g := 80) rfl rfl rfl rfl rfl rfl fun a hf => ?_
          refine o_skip hf (g := 80) rfl rfl rfl rfl rfl rfl fun a hf => ?_
          refine o_run hf (r_pickT hf rfl rfl) rfl fun a hf => ?_
          refine o_run hf (r_move hf rfl) rfl fun a hf => ?_
          refine o_skip hf (g := 84) rfl rfl rfl rfl rfl rfl fun a hf => ?_
          refine o_skip hf (g := 84) rfl rfl rfl rfl rfl rfl fun a hf => ?_
          refine o_run hf (r_pickT hf rfl rfl) rfl fun a hf => ?_
          refine o_run hf (r_move hf rfl) rfl fun a hf => ?_
          refine o_skip hf (g := 88) rfl rfl rfl rfl rfl rfl fun a hf => ?_
          refine o_skip hf (g := 88) rfl rfl rfl rfl rfl rfl fun a hf => ?_
          refine o_run hf (r_pickT hf rfl rfl) rfl fun a hf => ?_
          refine o_run hf (r_move hf rfl) rfl fun a hf => ?_
          refine o_skip hf (g := 92) rfl rfl rfl rfl rfl rfl fun a hf => ?_
          refine o_skip hf (g := 92) rfl rfl rfl rfl rfl rfl fun a hf => ?_
          refine o_skip hf (g := 92) rfl rfl rfl rfl rfl rfl fun a hf => ?_
          refine o_skip hf (g := 92) rfl rfl rfl rfl rfl rfl fun a hf => ?_
          refine o_skip hf (g := 92) rfl rfl rfl rfl rfl rfl fun a hf => ?_
          refine o_run hf (r_pickT hf rfl rfl) rfl fun a hf => ?_
          refine o_run hf (r_move hf rfl) rfl fun a hf => ?_
          refine o_skip hf (g := 99) rfl rfl rfl rfl rfl rfl fun a hf => ?_
          refine o_skip hf (g := 99) rfl rfl rfl rfl rfl rfl fun a hf => ?_
          refine o_skip hf (g := 99) rfl rfl rfl rfl rfl rfl fun a hf => ?_
          refine o_skip hf (g := 99) rfl rfl rfl rfl rfl rfl fun a hf => ?_
          refine o_skip hf (g := 99) rfl rfl rfl rfl rfl rfl fun a hf => ?_
          refine o_run hf (r_pickT hf rfl rfl) rfl fun a hf => ?_
          refine o_nil ?_
          refine c_then ?_
          have ho := out_inj hp
          subst ho
          exact ⟨true, rfl, hw, hf.to ⟨rfl, rfl, rfl, rfl, rfl, rfl, rfl, rfl, rfl, trivial⟩⟩
        · replace hp := cond_f hb705 hp
          refine o_want hf (g := 80) rfl rfl ?_
          refine o_run hf (r_move hf rfl) rfl fun a hf => ?_
          refine o_want hf (g := 80) rfl rfl ?_
          refine o_run hf (r_not hf rfl) rfl fun a hf => ?_
          refine o_run hf (r_pickF hf rfl rfl) rfl fun a hf => ?_
          refine o_run hf (r_move hf rfl) rfl fun a hf => ?_
          refine g_split hf (g := 84) rfl (fun hb706 hf => ?_) (fun hb706 hf => ?_)
          · replace hp := cond_t hb706 hp
            refine o_skip hf (g := 84) rfl rfl rfl rfl rfl rfl fun a hf => ?_
            refine o_skip hf (g := 84) rfl rfl rfl rfl rfl rfl fun a hf => ?_
            refine o_run hf (r_pickT hf rfl rfl) rfl fun a hf => ?_
            refine o_run hf (r_move hf rfl) rfl fun a hf => ?_
            refine o_skip hf (g := 88) rfl rfl rfl rfl rfl rfl fun a hf => ?_
            refine o_skip hf (g := 88) rfl rfl rfl rfl rfl rfl fun a hf => ?_
            refine o_run hf (r_pickT hf rfl rfl) rfl fun a hf => ?_
            refine o_run hf (r_move hf rfl) rfl fun a hf => ?_
            refine o_skip hf (g := 92) rfl rfl rfl rfl rfl rfl fun a hf => ?_
            refine o_skip hf (g := 92) rfl rfl rfl rfl rfl rfl fun a hf => ?_
            refine o_skip hf (g := 92) rfl rfl rfl rfl rfl rfl fun a hf => ?_
            refine o_skip hf (g := 92) rfl rfl rfl rfl rfl rfl fun a hf => ?_
            refine o_skip hf (g := 92) rfl rfl rfl rfl rfl rfl fun a hf => ?_
            refine o_run hf (r_pickT hf rfl rfl) rfl fun a hf => ?_
            refine o_run hf (r_move hf rfl) rfl fun a hf => ?_
            refine o_skip hf (g := 99) rfl rfl rfl rfl rfl rfl fun a hf => ?_
            refine o_skip hf (g := 99) rfl rfl rfl rfl rfl rfl fun a hf => ?_
            refine o_skip hf (g := 99) rfl rfl rfl rfl rfl rfl fun a hf => ?_
            refine o_skip hf (g := 99) rfl rfl rfl rfl rfl rfl fun a hf => ?_
            refine o_skip hf (g := 99) rfl rfl rfl rfl rfl rfl fun a hf => ?_
            refine o_run hf (r_pickT hf rfl rfl) rfl fun a hf => ?_
            refine o_nil ?_
            refine c_then ?_
            have ho := out_inj hp
            subst ho
            exact ⟨true, rfl, hw, hf.to ⟨rfl, rfl, rfl, rfl, rfl, rfl, rfl, rfl, rfl, trivial⟩⟩
          · replace hp := cond_f hb706 hp
            refine o_want hf (g := 84) rfl rfl ?_
            refine o_run hf (r_move hf rfl) rfl fun a hf => ?_
            refine o_want hf (g := 84) rfl rfl ?_
            refine o_run hf (r_not hf rfl) rfl fun a hf => ?_
            refine o_run hf (r_pickF hf rfl rfl) rfl fun a hf => ?_
            refine o_run hf (r_move hf rfl) rfl fun a hf => ?_
            refine g_split hf (g := 88) rfl (fun hb707 hf => ?_) (fun hb707 hf => ?_)
            · replace hp := cond_t hb707 hp
              refine o_skip hf (g := 88) rfl rfl rfl rfl rfl rfl fun a hf => ?_
              refine o_skip hf (g := 88) rfl rfl rfl rfl rfl rfl fun a hf => ?_
              refine o_run hf (r_pickT hf rfl rfl) rfl fun a hf => ?_
              refine o_run hf (r_move hf rfl) rfl fun a hf => ?_
              refine o_skip hf (g := 92) rfl rfl rfl rfl rfl rfl fun a hf => ?_
              refine o_skip hf (g := 92) rfl rfl rfl rfl rfl rfl fun a hf => ?_
              refine o_skip hf (g := 92) rfl rfl rfl rfl rfl rfl fun a hf => ?_
              refine o_skip hf (g := 92) rfl rfl rfl rfl rfl rfl fun a hf => ?_
              refine o_skip hf (g := 92) rfl rfl rfl rfl rfl rfl fun a hf => ?_
              refine o_run hf (r_pickT hf rfl rfl) rfl fun a hf => ?_
              refine o_run hf (r_move hf rfl) rfl fun a hf => ?_
              refine o_skip hf (g := 99) rfl rfl rfl rfl rfl rfl fun a hf => ?_
              refine o_skip hf (g := 99) rfl rfl rfl rfl rfl rfl fun a hf => ?_
              refine o_skip hf (g := 99) rfl rfl rfl rfl rfl rfl fun a hf => ?_
              refine o_skip hf (g := 99) rfl rfl rfl rfl rfl rfl fun a hf => ?_
              refine o_skip hf (g := 99) rfl rfl rfl rfl rfl rfl fun a hf => ?_
              refine o_run hf (r_pickT hf rfl rfl) rfl fun a hf => ?_
              refine o_nil ?_
              refine c_then ?_
              have ho := out_inj hp
              subst ho
              exact ⟨true, rfl, hw, hf.to ⟨rfl, rfl, rfl, rfl, rfl, rfl, rfl, rfl, rfl, trivial⟩⟩
            · replace hp := cond_f hb707 hp
              refine o_want hf (g := 88) rfl rfl ?_
              refine o_run hf (r_move hf rfl) rfl fun a hf => ?_
              refine o_want hf (g := 88) rfl rfl ?_
              refine o_run hf (r_not hf rfl) rfl fun a hf => ?_
              refine o_run hf (r_pickF hf rfl rfl) rfl fun a hf => ?_
              refine o_run hf (r_move hf rfl) rfl fun a hf => ?_
              refine g_split hf (g := 92) rfl (fun hb708 hf => ?_) (fun hb708 hf => ?_)
              · replace hp := cond_t hb708 hp
                refine o_skip hf (g := 92) rfl rfl rfl rfl rfl rfl fun a hf => ?_
                refine o_skip hf (g := 92) rfl rfl rfl rfl rfl rfl fun a hf => ?_
                refine o_skip hf (g := 92) rfl rfl rfl rfl rfl rfl fun a hf => ?_
                refine o_skip hf (g := 92) rfl rfl rfl rfl rfl rfl fun a hf => ?_
                refine o_skip hf (g := 92) rfl rfl rfl rfl rfl rfl fun a hf => ?_
                refine o_run hf (r_pickT hf rfl rfl) rfl fun a hf => ?_
                refine o_run hf (r_move hf rfl) rfl fun a hf => ?_
                refine o_skip hf (g := 99) rfl rfl rfl rfl rfl rfl fun a hf => ?_
                refine o_skip hf (g := 99) rfl rfl rfl rfl rfl rfl fun a hf => ?_
                refine o_skip hf (g := 99) rfl rfl rfl rfl rfl rfl fun a hf => ?_
                refine o_skip hf (g := 99) rfl rfl rfl rfl rfl rfl fun a hf => ?_
                refine o_skip hf (g := 99) rfl rfl rfl rfl rfl rfl fun a hf => ?_
                refine o_run hf (r_pickT hf rfl rfl) rfl fun a hf => ?_
                refine o_nil ?_
                refine c_then ?_
                have ho := out_inj hp
                subst ho
                exact ⟨true, rfl, hw, hf.to ⟨rfl, rfl, rfl, rfl, rfl, rfl, rfl, rfl, rfl, trivial⟩⟩
              · replace hp := cond_f hb708 hp
                refine o_want hf (g := 92) rfl rfl ?_
                refine o_run hf (r_move hf rfl) rfl fun a hf => ?_
                refine o_want hf (g := 92) rfl rfl ?_
                refine o_run hf (r_lenL (K := ekS) hf el_28 rfl (hR660.rd hw)) rfl fun a hf => ?_
                refine o_want hf (g := 92) rfl rfl ?_
                refine o_run hf (r_move hf rfl) rfl fun a hf => ?_
                refine o_want hf (g := 92) rfl rfl ?_
                refine o_run hf (r_lenL (K := ek_Node) hf el_23 rfl (hR623.rd hw)) rfl fun a hf => ?_
                refine o_want hf (g := 92) rfl rfl ?_
                refine o_run hf (r_icmp hf rfl rfl rfl) rfl fun a hf => ?_
                refine o_run hf (r_pickF hf rfl rfl) rfl fun a hf => ?_
                refine o_run hf (r_move hf rfl) rfl fun a hf => ?_
                refine g_split hf (g := 99) rfl (fun hb709 hf => ?_) (fun hb709 hf => ?_)
                · replace hp := cond_t hb709 hp
                  refine o_skip hf (g := 99) rfl rfl rfl rfl rfl rfl fun a hf => ?_
                  refine o_skip hf (g := 99) rfl rfl rfl rfl rfl rfl fun a hf => ?_
                  refine o_skip hf (g := 99) rfl rfl rfl rfl rfl rfl fun a hf => ?_
                  refine o_skip hf (g := 99) rfl rfl rfl rfl rfl rfl fun a hf => ?_
                  refine o_skip hf (g := 99) rfl rfl rfl rfl rfl rfl fun a hf => ?_
                  refine o_run hf (r_pickT hf rfl rfl) rfl fun a hf => ?_
                  refine o_nil ?_
                  refine c_then ?_
                  have ho := out_inj hp
                  subst ho
                  exact ⟨true, rfl, hw, hf.to ⟨rfl, rfl, rfl, rfl, rfl, rfl, rfl, rfl, rfl, trivial⟩⟩
                · replace hp := cond_f hb709 hp
                  refine o_want hf (g := 99) rfl rfl ?_
                  refine o_run hf (r_move hf rfl) rfl fun a hf => ?_
                  refine o_want hf (g := 99) rfl rfl ?_
                  refine o_run hf (r_lenL (K := ekS) hf el_28 rfl (hR670.rd hw)) rfl fun a hf => ?_
                  refine o_want hf (g := 99) rfl rfl ?_
                  refine o_run hf (r_move hf rfl) rfl fun a hf => ?_
                  refine o_want hf (g := 99) rfl rfl ?_
                  refine o_run hf (r_lenL (K := ek_Node) hf el_23 rfl (hR634.rd hw)) rfl fun a hf => ?_
                  refine o_want hf (g := 99) rfl rfl ?_
                  refine o_run hf (r_icmp hf rfl rfl rfl) rfl fun a hf => ?_
                  refine o_run hf (r_pickF hf rfl rfl) rfl fun a hf => ?_
                  refine o_nil ?_
                  refine c_then ?_
                  have ho := out_inj hp
                  subst ho
                  exact ⟨((y663.length : Int) != (y628.t_.length : Int)), rfl, hw, hf.to ⟨rfl, rfl, rfl, rfl, rfl, rfl, rfl, rfl, rfl, trivial⟩⟩
      · intro a w hM
        obtain ⟨y702, rfl, hw, hf⟩ := hM
        replace hp := hq704
        refine c_cond hf rfl (fun hb710 => ?_) (fun hb710 => ?_)
        · replace hp := cond_t hb710 hp
          refine wp_seq ?_
          refine wp_region_lit ?_
          refine o_run hf (r_assign hf rfl) rfl fun a hf => ?_
          refine o_nil ?_
          refine c_then ?_
          refine wp_ret ?_
          refine c_thenR ?_
          have ho := out_inj hp
          subst ho
          exact b_ret1 hf Go.Proofs.Tryd.results4 rfl ⟨_, rfl, ⟨rfl, (hw.back (IH.le_trans (IH.le_trans (IH.le_trans hle627 hle638) hle662) hle672) (List.Sublist.refl _))⟩⟩
        · replace hp := cond_f hb710 hp
          refine wp_skip ?_
          refine c_then ?_
          refine wp_seq ?_
          refine wp_seq ?_
          refine wp_region_lit ?_
          refine o_run hf (r_move hf rfl) rfl fun a hf => ?_
          refine o_run hf (r_move hf rfl) rfl fun a hf => ?_
          obtain ⟨y29, hy30, hp⟩ := bind_some hp
          have hc32 := keep_Pairs_ok hw hG hR2 hR4 hy30
          refine o_call hf cb_27 rfl rfl hc32 (fun v34 w a hK33 hf => ?_)
          obtain ⟨rfl, hw⟩ := hK33
          refine o_nil ?_
          refine c_then ?_
          refine c_cond hf rfl (fun hb35 => ?_) (fun hb35 => ?_)
          · replace hp := cond_t hb35 hp
            obtain ⟨out57, hp, hq58⟩ := bind_some hp
            refine c_cut (fun a w => ∃ y56 : Bool, y56 = out57 ∧ Ok E I2_668 (F) w ∧ Fr 181 ([(4, Value.bool y56)]) a) ?_ ?_
            · refine wp_region_lit ?_
              refine o_run hf (r_move hf rfl) rfl fun a hf => ?_
              refine o_run hf (r_move hf rfl) rfl fun a hf => ?_
              refine o_run hf (r_scmp hf rfl rfl rfl) rfl fun a hf => ?_
              refine o_run hf (r_move hf rfl) rfl fun a hf => ?_
              refine g_split hf (g := 112) rfl (fun hb59 hf => ?_) (fun hb59 hf => ?_)
              · replace hp := cond_t hb59 hp
                refine o_want hf (g := 112) rfl rfl ?_
                refine o_run hf (r_move hf rfl) rfl fun a hf => ?_
                refine o_want hf (g := 112) rfl rfl ?_
                refine o_run hf (r_move hf rfl) rfl fun a hf => ?_
                refine o_want hf (g := 112) rfl rfl ?_
                obtain ⟨y60, hy61, hp⟩ := bind_some hp
                have hc63 := keep_Texts_ok hw hG hR660 hR670 hy61
                refine o_call hf cb_19 rfl rfl hc63 (fun v65 w a hK64 hf => ?_)
                obtain ⟨rfl, hw⟩ := hK64
                refine o_run hf (r_pickT hf rfl rfl) rfl fun a hf => ?_
                refine o_run hf (r_move hf rfl) rfl fun a hf => ?_
                refine g_split hf (g := 117) rfl (fun hb66 hf => ?_) (fun hb66 hf => ?_)
                · replace hp := cond_t hb66 hp
                  refine o_want hf (g := 117) rfl rfl ?_
                  obtain ⟨y67, hy68, hp⟩ := bind_some hp
                  have hc70 := law11_wakes_ok hw hG hy68
                  refine o_call hf cb_13 rfl rfl hc70 (fun v72 w a hK71 hf => ?_)
                  obtain ⟨rfl, hw⟩ := hK71
                  refine o_run hf (r_pickT hf rfl rfl) rfl fun a hf => ?_
                  refine o_run hf (r_assign hf rfl) rfl fun a hf => ?_
                  refine o_nil ?_
                  refine c_then ?_
                  have ho := out_inj hp
                  subst ho
                  exact ⟨y67, rfl, hw, hf.to ⟨rfl, trivial⟩⟩
                · replace hp := cond_f hb66 hp
                  refine o_skip hf (g := 117) rfl rfl rfl rfl rfl rfl fun a hf => ?_
                  refine o_run hf (r_pickF hf rfl rfl) rfl fun a hf => ?_
                  refine o_run hf (r_assign hf rfl) rfl fun a hf => ?_
                  refine o_nil ?_
                  refine c_then ?_
                  have ho := out_inj hp
                  subst ho
                  exact ⟨false, rfl, hw, hf.to ⟨rfl, trivial⟩⟩
              · replace hp := cond_f hb59 hp
                refine o_skip hf (g := 112) rfl rfl rfl rfl rfl rfl fun a hf => ?_
                refine o_skip hf (g := 112) rfl rfl rfl rfl rfl rfl fun a hf => ?_
                refine o_skip hf (g := 112) rfl rfl rfl rfl rfl rfl fun a hf => ?_
                refine o_run hf (r_pickF hf rfl rfl) rfl fun a hf => ?_
                refine o_run hf (r_move hf rfl) rfl fun a hf => ?_
                refine o_skip hf (g := 117) rfl rfl rfl rfl rfl rfl fun a hf => ?_
                refine o_run hf (r_pickF hf rfl rfl) rfl fun a hf => ?_
                refine o_run hf (r_assign hf rfl) rfl fun a hf => ?_
                refine o_nil ?_
                refine c_then ?_
                have ho := out_inj hp
                subst ho
                exact ⟨false, rfl, hw, hf.to ⟨rfl, trivial⟩⟩
            · intro a w hM
              obtain ⟨y56, rfl, hw, hf⟩ := hM
              replace hp := hq58
              refine wp_ret ?_
              refine c_thenR ?_
              have ho := out_inj hp
              subst ho
              exact b_ret1 hf Go.Proofs.Tryd.results4 rfl ⟨_, rfl, ⟨rfl, (hw.back (IH.le_trans (IH.le_trans (IH.le_trans hle627 hle638) hle662) hle672) (List.Sublist.refl _))⟩⟩
          · replace hp := cond_f hb35 hp
            refine wp_skip ?_
            refine c_then ?_
            refine wp_seq ?_
            refine wp_seq ?_
            refine wp_region_lit ?_
            refine o_run hf (r_move hf rfl) rfl fun a hf => ?_
            refine o_run hf (r_move hf rfl) rfl fun a hf => ?_
            refine o_run hf (r_scmp hf rfl rfl rfl) rfl fun a hf => ?_
            refine o_nil ?_
            refine c_then ?_
            refine c_cond hf rfl (fun hb73 => ?_) (fun hb73 => ?_)
            · replace hp := cond_t hb73 hp
              refine wp_seq ?_
              refine wp_region_lit ?_
              obtain ⟨y74, hy75, hp⟩ := bind_some hp
              have hc77 := law11_wakes_ok hw hG hy75
              refine o_call hf cb_13 rfl rfl hc77 (fun v79 w a hK78 hf => ?_)
              obtain ⟨rfl, hw⟩ := hK78
              refine o_run hf (r_assign hf rfl) rfl fun a hf => ?_
              refine o_nil ?_
              refine c_then ?_
              refine wp_ret ?_
              refine c_thenR ?_
              have ho := out_inj hp
              subst ho
              exact b_ret1 hf Go.Proofs.Tryd.results4 rfl ⟨_, rfl, ⟨rfl, (hw.back (IH.le_trans (IH.le_trans (IH.le_trans hle627 hle638) hle662) hle672) (List.Sublist.refl _))⟩⟩
            · replace hp := cond_f hb73 hp
              refine wp_skip ?_
              refine c_then ?_
              refine wp_seq ?_
              refine wp_seq ?_
              refine wp_region_lit ?_
              refine o_run hf (r_assign hf rfl) rfl fun a hf => ?_
              refine o_nil ?_
              refine c_then ?_
              obtain ⟨out1666, hp, hq1667⟩ := bind_some hp
              refine c_cutX (fun a w => ∃ I1665 : IH, (.inl ()) = out1666 ∧ IH.le I2_668 I1665 ∧ Ok E I1665 (F) w ∧ Fr 181 ([(5, rvv622), (6, rvv633)]) a) ?_ ?_
              · refine wp_block ?_
                refine c_loop ?_
                refine c_fuel (law11_RootContents.l0 y617 y628 y653 y663) out1666 (fun (y1137 : Int) a w => ∃ I1136 : IH, IH.le I2_668 I1136 ∧ Ok E I1136 (F) w ∧ Fr 181 ([(5, rvv622), (6, rvv633), (11, rvv659), (13, rvv669), (15, Value.int .i64 y1137)]) a) (fun _ => rfl) ?_ BIG 0 _ _ ⟨I2_668, (IH.le_refl _), hw, hf.to ⟨rfl, rfl, rfl, rfl, rfl, trivial⟩⟩ hp
                intro k y1137 a w hI hp ih
                obtain ⟨I1136, hle1668, hw, hf⟩ := hI
                rw [law11_RootContents.l0] at hp
                replace hG := hG.mono hle1668
                replace hR623 := hR623.mono hle1668
                replace hR634 := hR634.mono hle1668
                replace hR660 := hR660.mono hle1668
                replace hR670 := hR670.mono hle1668
                refine wp_seq ?_
                refine wp_seq ?_
                refine wp_region_lit ?_
                refine o_run hf (r_move hf rfl) rfl fun a hf => ?_
                refine o_run hf (r_move hf rfl) rfl fun a hf => ?_
                refine o_run hf (r_lenL (K := ek_Node) hf el_23 rfl (hR623.rd hw)) rfl fun a hf => ?_
                refine o_run hf (r_icmp hf rfl rfl rfl) rfl fun a hf => ?_
                refine o_nil ?_
                refine c_then ?_
                refine c_cond hf rfl (fun hb1669 => ?_) (fun hb1669 => ?_)
                · replace hp := cond_t hb1669 hp
                  refine wp_skip ?_
                  refine c_then ?_
                  refine wp_seq ?_
                  refine wp_block ?_
                  refine wp_seq ?_
                  refine wp_region_lit ?_
                  refine o_run hf (r_assign hf rfl) rfl fun a hf => ?_
                  refine o_nil ?_
                  refine c_then ?_
                  obtain ⟨out2062, hp, hq2063⟩ := bind_some hp
                  refine c_cutX (fun a w => ∃ I2061 : IH, (.inl ()) = out2062 ∧ IH.le I1136 I2061 ∧ Ok E I2061 (F) w ∧ Fr 181 ([(5, rvv622), (6, rvv633), (11, rvv659), (13, rvv669), (15, Value.int .i64 y1137)]) a) ?_ ?_
                  · refine wp_block ?_
                    refine c_loop ?_
                    refine c_fuel (law11_RootContents.l1 y617 y628 y653 y663 y1137) out2062 (fun (y1931 : Int) a w => ∃ I1930 : IH, IH.le I1136 I1930 ∧ Ok E I1930 (F) w ∧ Fr 181 ([(5, rvv622), (6, rvv633), (11, rvv659), (13, rvv669), (15, Value.int .i64 y1137), (16, Value.int .i64 y1931)]) a) (fun _ => rfl) ?_ BIG 0 _ _ ⟨I1136, (IH.le_refl _), hw, hf.to ⟨rfl, rfl, rfl, rfl, rfl, rfl, trivial⟩⟩ hp
                    intro k y1931 a w hI hp ih
                    obtain ⟨I1930, hle2064, hw, hf⟩ := hI
                    rw [law11_RootContents.l1] at hp
                    replace hG := hG.mono hle2064
                    replace hR623 := hR623.mono hle2064
                    replace hR634 := hR634.mono hle2064
                    replace hR660 := hR660.mono hle2064
                    replace hR670 := hR670.mono hle2064
                    refine wp_seq ?_
                    refine wp_seq ?_
                    refine wp_region_lit ?_
                    refine o_run hf (r_move hf rfl) rfl fun a hf => ?_
                    refine o_run hf (r_move hf rfl) rfl fun a hf => ?_
                    refine o_run hf (r_lenL (K := ek_Node) hf el_23 rfl (hR634.rd hw)) rfl fun a hf => ?_
                    refine o_run hf (r_icmp hf rfl rfl rfl) rfl fun a hf => ?_
                    refine o_nil ?_
                    refine c_then ?_
                    refine c_cond hf rfl (fun hb2065 => ?_) (fun hb2065 => ?_)
                    · replace hp := cond_t hb2065 hp
                      refine wp_skip ?_
                      refine c_then ?_
                      refine wp_seq ?_
                      refine wp_block ?_
                      refine wp_seq ?_
                      refine wp_region_lit ?_
                      refine o_run hf (r_move hf rfl) rfl fun a hf => ?_
                      refine o_run hf (r_move hf rfl) rfl fun a hf => ?_
                      obtain ⟨y2133, hy2132, hp⟩ := bind_some hp
                      obtain ⟨y2130, y2131⟩ := y2133
                      have hc2134 := root_Item_ok hw hG hR623 hy2132
                      refine o_call hf cb_16 rfl rfl hc2134 (fun v2138 w a hK2135 hf => ?_)
                      obtain ⟨I2_2135, rvv2136, rfl, hle2139, hw, hR2137⟩ := hK2135
                      replace hG := hG.mono hle2139
                      replace hR623 := hR623.mono hle2139
                      replace hR634 := hR634.mono hle2139
                      replace hR660 := hR660.mono hle2139
                      replace hR670 := hR670.mono hle2139
                      refine o_run hf (r_move hf rfl) rfl fun a hf => ?_
                      refine o_run hf (r_extract hf rfl rfl) rfl fun a hf => ?_
                      refine o_run hf (r_extract hf rfl rfl) rfl fun a hf => ?_
                      obtain ⟨b2140, w, hrun2141, hw⟩ := e_alloc (P := P) (a := a) hw ty_32
                      replace hw : Ok E I2_2135 (.blk b2140 (.cells ⟨[Value.int .i64 0, Value.string (⟨#[]⟩ : ByteArray), Value.bool false, Value.string (⟨#[]⟩ : ByteArray), Value.int .i64 0, Value.slice none 0 0]⟩ 32 (0, 0)) :: F) w := hw
                      refine o_eff hf (hrun2141 ..) rfl fun a hf => ?_
                      obtain ⟨w, hrun2143, hw⟩ := e_store (P := P) hw hf (x := .tmp 17) (y := .tmp 140) rfl rfl ty_32 0 rfl (vs := [Value.int .i64 y2130.kind_, Value.string y2130.path_, Value.bool y2130.has_, Value.string y2130.value_, Value.int .i64 y2130.mask_, rvv2136]) rfl rfl (ones_cons rfl (ones_cons rfl (ones_cons rfl (ones_cons rfl (ones_cons rfl (ones_cons hR2137.one ones_nil)))))) (by simp [arrC_len]) (cs' := [Value.int .i64 y2130.kind_, Value.string y2130.path_, Value.bool y2130.has_, Value.string y2130.value_, Value.int .i64 y2130.mask_, rvv2136]) rfl
                      replace hw : Ok E I2_2135 (.blk b2140 (.cells ⟨[Value.int .i64 y2130.kind_, Value.string y2130.path_, Value.bool y2130.has_, Value.string y2130.value_, Value.int .i64 y2130.mask_, rvv2136]⟩ 32 (0, 0)) :: F) w := hw
                      refine o_effU (hrun2143 ..) ?_
                      refine o_run hf (r_assign hf rfl) rfl fun a hf => ?_
                      refine o_nil ?_
                      refine c_then ?_
                      refine wp_seq ?_
                      refine wp_region_lit ?_
                      refine o_run hf (r_move hf rfl) rfl fun a hf => ?_
                      refine o_run hf (r_move hf rfl) rfl fun a hf => ?_
                      obtain ⟨y2147, hy2146, hp⟩ := bind_some hp
                      obtain ⟨y2144, y2145⟩ := y2147
                      have hc2148 := root_Item_ok hw hG hR634 hy2146
                      refine o_call hf cb_16 rfl rfl hc2148 (fun v2152 w a hK2149 hf => ?_)
                      obtain ⟨I2_2149, rvv2150, rfl, hle2153, hw, hR2151⟩ := hK2149
                      replace hG := hG.mono hle2153
                      replace hR623 := hR623.mono hle2153
                      replace hR634 := hR634.mono hle2153
                      replace hR660 := hR660.mono hle2153
                      replace hR670 := hR670.mono hle2153
                      replace hR2137 := hR2137.mono hle2153
                      refine o_run hf (r_move hf rfl) rfl fun a hf => ?_
                      refine o_run hf (r_extract hf rfl rfl) rfl fun a hf => ?_
                      refine o_run hf (r_extract hf rfl rfl) rfl fun a hf => ?_
                      obtain ⟨b2154, w, hrun2155, hw⟩ := e_alloc (P := P) (a := a) hw ty_32
                      replace hw : Ok E I2_2149 (.blk b2154 (.cells ⟨[Value.int .i64 0, Value.string (⟨#[]⟩ : ByteArray), Value.bool false, Value.string (⟨#[]⟩ : ByteArray), Value.int .i64 0, Value.slice none 0 0]⟩ 32 (0, 0)) :: .blk b2140 (.cells ⟨[Value.int .i64 y2130.kind_, Value.string y2130.path_, Value.bool y2130.has_, Value.string y2130.value_, Value.int .i64 y2130.mask_, rvv2136]⟩ 32 (0, 0)) :: F) w := hw
                      refine o_eff hf (hrun2155 ..) rfl fun a hf => ?_
                      obtain ⟨w, hrun2157, hw⟩ := e_store (P := P) hw hf (x := .tmp 19) (y := .tmp 146) rfl rfl ty_32 0 rfl (vs := [Value.int .i64 y2144.kind_, Value.string y2144.path_, Value.bool y2144.has_, Value.string y2144.value_, Value.int .i64 y2144.mask_, rvv2150]) rfl rfl (ones_cons rfl (ones_cons rfl (ones_cons rfl (ones_cons rfl (ones_cons rfl (ones_cons hR2151.one ones_nil)))))) (by simp [arrC_len]) (cs' := [Value.int .i64 y2144.kind_, Value.string y2144.path_, Value.bool y2144.has_, Value.string y2144.value_, Value.int .i64 y2144.mask_, rvv2150]) rfl
                      replace hw : Ok E I2_2149 (.blk b2154 (.cells ⟨[Value.int .i64 y2144.kind_, Value.string y2144.path_, Value.bool y2144.has_, Value.string y2144.value_, Value.int .i64 y2144.mask_, rvv2150]⟩ 32 (0, 0)) :: .blk b2140 (.cells ⟨[Value.int .i64 y2130.kind_, Value.string y2130.path_, Value.bool y2130.has_, Value.string y2130.value_, Value.int .i64 y2130.mask_, rvv2136]⟩ 32 (0, 0)) :: F) w := hw
                      refine o_effU (hrun2157 ..) ?_
                      refine o_run hf (r_assign hf rfl) rfl fun a hf => ?_
                      refine o_nil ?_
                      refine c_then ?_
                      refine wp_seq ?_
                      refine wp_region_lit ?_
                      refine o_run hf (r_loadA hw hf rfl ty_32 1 rfl (vs := [Value.int .i64 y2130.kind_, Value.string y2130.path_, Value.bool y2130.has_, Value.string y2130.value_, Value.int .i64 y2130.mask_, rvv2136]) rfl rfl) rfl fun a hf => ?_
                      obtain ⟨y2161, hy2160, hp⟩ := bind_some hp
                      obtain ⟨y2158, y2159⟩ := y2161
                      have hc2162 := node_Encode_ok hw hG hR2137 hy2160
                      refine o_call hf cb_28 rfl rfl hc2162 (fun v2164 w a hK2163 hf => ?_)
                      obtain ⟨rfl, hw⟩ := hK2163
                      refine o_run hf (r_move hf rfl) rfl fun a hf => ?_
                      refine o_run hf (r_extract hf rfl rfl) rfl fun a hf => ?_
                      refine o_run hf (r_extract hf rfl rfl) rfl fun a hf => ?_
                      refine o_run hf (r_assign hf rfl) rfl fun a hf => ?_
                      refine o_run hf (r_assign hf rfl) rfl fun a hf => ?_
                      refine o_nil ?_
                      refine c_then ?_
                      refine wp_seq ?_
                      refine wp_region_lit ?_
                      refine o_run hf (r_loadA hw hf rfl ty_32 0 rfl (vs := [Value.int .i64 y2144.kind_, Value.string y2144.path_, Value.bool y2144.has_, Value.string y2144.value_, Value.int .i64 y2144.mask_, rvv2150]) rfl rfl) rfl fun a hf => ?_
                      obtain ⟨y2168, hy2167, hp⟩ := bind_some hp
                      obtain ⟨y2165, y2166⟩ := y2168
                      have hc2169 := node_Encode_ok hw hG hR2151 hy2167
                      refine o_call hf cb_28 rfl rfl hc2169 (fun v2171 w a hK2170 hf => ?_)
                      obtain ⟨rfl, hw⟩ := hK2170
                      refine o_run hf (r_move hf rfl) rfl fun a hf => ?_
                      refine o_run hf (r_extract hf rfl rfl) rfl fun a hf => ?_
                      refine o_run hf (r_extract hf rfl rfl) rfl fun a hf => ?_
                      refine o_run hf (r_assign hf rfl) rfl fun a hf => ?_
                      refine o_run hf (r_assign hf rfl) rfl fun a hf => ?_
                      refine o_nil ?_
                      refine c_then ?_
                      obtain ⟨out2181, hp, hq2182⟩ := bind_some hp
                      refine c_cut (fun a w => ∃ y2180 : Bool, y2180 = out2181 ∧ Ok E I2_2149 (.blk b2154 (.cells ⟨[Value.int .i64 y2144.kind_, Value.string y2144.path_, Value.bool y2144.has_, Value.string y2144.value_, Value.int .i64 y2144.mask_, rvv2150]⟩ 32 (0, 0)) :: .blk b2140 (.cells ⟨[Value.int .i64 y2130.kind_, Value.string y2130.path_, Value.bool y2130.has_, Value.string y2130.value_, Value.int .i64 y2130.mask_, rvv2136]⟩ 32 (0, 0)) :: F) w ∧ Fr 181 ([(5, rvv622), (6, rvv633), (11, rvv659), (13, rvv669), (15, Value.int .i64 y1137), (16, Value.int .i64 y1931), (171, Value.bool y2180)]) a) ?_ ?_
                      · refine c_drawn mix [] (.rd 0 (.rd 1 (.rd 2 (.rd 3 (.rd 4 (.rd 5 (.rd 6 (.rd 7 (.rd 8 (.rd 9 (.rd 10 (.rd 11 (.rd 12 (.rd 13 .done)))))))))))))) (by kernel_rfl) hw (fun w => Ok E I2_2149 (.blk b2154 (.cells ⟨[Value.int .i64 y2144.kind_, Value.string y2144.path_, Value.bool y2144.has_, Value.string y2144.value_, Value.int .i64 y2144.mask_, rvv2150]⟩ 32 (0, 0)) :: .blk b2140 (.cells ⟨[Value.int .i64 y2130.kind_, Value.string y2130.path_, Value.bool y2130.has_, Value.string y2130.value_, Value.int .i64 y2130.mask_, rvv2136]⟩ 32 (0, 0)) :: F) w) (fun w hw => ⟨hw.sub (List.Sublist.cons_cons _ (List.Sublist.cons_cons _ (List.Sublist.refl _))), ?_⟩)
                        refine t_rd rfl hf (fun w hw => r_move hf rfl) rfl fun a hf => ?_
                        refine t_rd rfl hf (fun w hw => r_move hf rfl) rfl fun a hf => ?_
                        obtain ⟨hg2184, hp⟩ := gd_some hp
                        refine t_rd rfl hf (fun w hw => r_indexAddr (K := ekS) hf el_28 rfl rfl (hR660.rd hw) hg2184) rfl fun a hf => ?_
                        refine t_rd rfl hf (fun w hw => r_loadH (K := ekS) hf rfl ty_9 (hR660.rd hw) hg2184 rfl (fun cs h => ekS_f0 h)) rfl fun a hf => ?_
                        refine t_rd rfl hf (fun w hw => r_move hf rfl) rfl fun a hf => ?_
                        refine t_rd rfl hf (fun w hw => r_move hf rfl) rfl fun a hf => ?_
                        obtain ⟨hg2185, hp⟩ := gd_some hp
                        refine t_rd rfl hf (fun w hw => r_indexAddr (K := ekS) hf el_28 rfl rfl (hR670.rd hw) hg2185) rfl fun a hf => ?_
                        refine t_rd rfl hf (fun w hw => r_loadH (K := ekS) hf rfl ty_9 (hR670.rd hw) hg2185 rfl (fun cs h => ekS_f0 h)) rfl fun a hf => ?_
                        refine t_rd rfl hf (fun w hw => r_scmp hf rfl rfl rfl) rfl fun a hf => ?_
                        refine t_rd rfl hf (fun w hw => r_move hf rfl) rfl fun a hf => ?_
                        refine g_split hf (g := 167) rfl (fun hb2186 hf => ?_) (fun hb2186 hf => ?_)
                        · replace hp := cond_t hb2186 hp
                          refine t_rdG rfl rfl hf rfl (fun w hw => r_move hf rfl) rfl fun a hf => ?_
                          refine t_rdG rfl rfl hf rfl (fun w hw => r_move hf rfl) rfl fun a hf => ?_
                          refine t_rdG rfl rfl hf rfl (fun w hw => r_scmp hf rfl rfl rfl) rfl fun a hf => ?_
                          refine t_rd rfl hf (fun w hw => r_pickT hf rfl rfl) rfl fun a hf => ?_
                          refine t_done ?_
                          refine c_then ?_
                          have ho := out_inj hp
                          subst ho
                          exact ⟨(!(seq_ y2158 y2165)), rfl, hw, hf.to ⟨rfl, rfl, rfl, rfl, rfl, rfl, rfl, trivial⟩⟩
                        · replace hp := cond_f hb2186 hp
                          refine t_rdS rfl rfl hf rfl rfl rfl fun a hf => ?_
                          refine t_rdS rfl rfl hf rfl rfl rfl fun a hf => ?_
                          refine t_rdS rfl rfl hf rfl rfl rfl fun a hf => ?_
                          refine t_rd rfl hf (fun w hw => r_pickF hf rfl rfl) rfl fun a hf => ?_
                          refine t_done ?_
                          refine c_then ?_
                          have ho := out_inj hp
                          subst ho
                          exact ⟨false, rfl, hw, hf.to ⟨rfl, rfl, rfl, rfl, rfl, rfl, rfl, trivial⟩⟩
                      · intro a w hM
                        obtain ⟨y2180, rfl, hw, hf⟩ := hM
                        replace hp := hq2182
                        refine c_cond hf rfl (fun hb2187 => ?_) (fun hb2187 => ?_)
                        · replace hp := cond_t hb2187 hp
                          refine wp_seq ?_
                          refine wp_region_lit ?_
                          obtain ⟨y2188, hy2189, hp⟩ := bind_some hp
                          have hc2191 := law11_wakes_ok hw hG hy2189
                          refine o_call hf cb_13 rfl rfl hc2191 (fun v2193 w a hK2192 hf => ?_)
                          obtain ⟨rfl, hw⟩ := hK2192
                          refine o_run hf (r_assign hf rfl) rfl fun a hf => ?_
                          refine o_nil ?_
                          refine c_then ?_
                          refine wp_ret ?_
                          refine c_blockR ?_
                          refine c_thenR ?_
                          refine c_thenR ?_
                          refine c_blockR ?_
                          refine c_thenR ?_
                          have ho := out_inj hp
                          subst ho
                          replace hp := hq2063
                          refine c_blockR ?_
                          refine c_thenR ?_
                          refine c_thenR ?_
                          refine c_blockR ?_
                          refine c_thenR ?_
                          have ho := out_inj hp
                          subst ho
                          replace hp := hq1667
                          refine c_thenR ?_
                          replace hw : Ok E I2_2149 (F) w := hw.sub (List.Sublist.cons _ (List.Sublist.cons _ (List.Sublist.refl _)))
                          have ho := out_inj hp
                          subst ho
                          exact b_ret1 hf Go.Proofs.Tryd.results4 rfl ⟨_, rfl, ⟨rfl, (hw.back (IH.le_trans (IH.le_trans (IH.le_trans (IH.le_trans (IH.le_trans (IH.le_trans (IH.le_trans hle627 hle638) hle662) hle672) hle1668) hle2064) hle2139) hle2153) (List.Sublist.refl _))⟩⟩
                        · replace hp := cond_f hb2187 hp
                          refine wp_skip ?_
                          refine c_blockN ?_
                          refine c_then ?_
                          refine wp_region_lit ?_
                          refine o_run hf (r_move hf rfl) rfl fun a hf => ?_
                          refine o_run hf (r_add hf rfl rfl) rfl fun a hf => ?_
                          refine o_run hf (r_assign hf rfl) rfl fun a hf => ?_
                          refine o_nil ?_
                          refine c_then ?_
                          replace hw : Ok E I2_2149 (F) w := hw.sub (List.Sublist.cons _ (List.Sublist.cons _ (List.Sublist.refl _)))
                          exact ih (w64 (y1931 + 1)) _ _ ⟨I2_2149, (IH.le_trans (IH.le_trans hle2064 hle2139) hle2153), hw, hf.to ⟨rfl, rfl, rfl, rfl, rfl, rfl, trivial⟩⟩ hp
                    · replace hp := cond_f hb2065 hp
                      refine wp_exit ?_
                      refine c_thenE ?_
                      refine c_thenE ?_
                      refine c_exit ?_
                      refine c_then ?_
                      have ho := out_inj hp
                      subst ho
                      exact ⟨I1930, rfl, hle2064, hw, hf.to ⟨rfl, rfl, rfl, rfl, rfl, trivial⟩⟩
                  · intro a w hM
                    obtain ⟨I2061, rfl, hle2194, hw, hf⟩ := hM
                    replace hp := hq2063
                    replace hG := hG.mono hle2194
                    replace hR623 := hR623.mono hle2194
                    replace hR634 := hR634.mono hle2194
                    replace hR660 := hR660.mono hle2194
                    replace hR670 := hR670.mono hle2194
                    refine c_blockN ?_
                    refine c_then ?_
                    refine wp_region_lit ?_
                    refine o_run hf (r_move hf rfl) rfl fun a hf => ?_
                    refine o_run hf (r_add hf rfl rfl) rfl fun a hf => ?_
                    refine o_run hf (r_assign hf rfl) rfl fun a hf => ?_
                    refine o_nil ?_
                    refine c_then ?_
                    exact ih (w64 (y1137 + 1)) _ _ ⟨I2061, (IH.le_trans hle1668 hle2194), hw, hf.to ⟨rfl, rfl, rfl, rfl, rfl, trivial⟩⟩ hp
                · replace hp := cond_f hb1669 hp
                  refine wp_exit ?_
                  refine c_thenE ?_
                  refine c_thenE ?_
                  refine c_exit ?_
                  refine c_then ?_
                  have ho := out_inj hp
                  subst ho
                  exact ⟨I1136, rfl, hle1668, hw, hf.to ⟨rfl, rfl, trivial⟩⟩
              · intro a w hM
                obtain ⟨I1665, rfl, hle2196, hw, hf⟩ := hM
                replace hp := hq1667
                replace hG := hG.mono hle2196
                replace hR623 := hR623.mono hle2196
                replace hR634 := hR634.mono hle2196
                refine c_then ?_
                obtain ⟨out2200, hp, hq2201⟩ := bind_some hp
                refine c_cut (fun a w => ∃ y2199 : Bool, y2199 = out2200 ∧ Ok E I1665 (F) w ∧ Fr 181 ([(4, Value.bool y2199)]) a) ?_ ?_
                · refine wp_region_lit ?_
                  refine o_run hf (r_move hf rfl) rfl fun a hf => ?_
                  refine o_run hf (r_lenL (K := ek_Node) hf el_23 rfl (hR623.rd hw)) rfl fun a hf => ?_
                  refine o_run hf (r_icmp hf rfl rfl rfl) rfl fun a hf => ?_
                  refine o_run hf (r_move hf rfl) rfl fun a hf => ?_
                  refine g_split hf (g := 176) rfl (fun hb2202 hf => ?_) (fun hb2202 hf => ?_)
                  · replace hp := cond_t hb2202 hp
                    refine o_skip hf (g := 176) rfl rfl rfl rfl rfl rfl fun a hf => ?_
                    refine o_skip hf (g := 176) rfl rfl rfl rfl rfl rfl fun a hf => ?_
                    refine o_skip hf (g := 176) rfl rfl rfl rfl rfl rfl fun a hf => ?_
                    refine o_run hf (r_pickT hf rfl rfl) rfl fun a hf => ?_
                    refine o_run hf (r_assign hf rfl) rfl fun a hf => ?_
                    refine o_nil ?_
                    refine c_then ?_
                    have ho := out_inj hp
                    subst ho
                    exact ⟨true, rfl, hw, hf.to ⟨rfl, trivial⟩⟩
                  · replace hp := cond_f hb2202 hp
                    refine o_want hf (g := 176) rfl rfl ?_
                    refine o_run hf (r_move hf rfl) rfl fun a hf => ?_
                    refine o_want hf (g := 176) rfl rfl ?_
                    refine o_run hf (r_lenL (K := ek_Node) hf el_23 rfl (hR634.rd hw)) rfl fun a hf => ?_
                    refine o_want hf (g := 176) rfl rfl ?_
                    refine o_run hf (r_icmp hf rfl rfl rfl) rfl fun a hf => ?_
                    refine o_run hf (r_pickF hf rfl rfl) rfl fun a hf => ?_
                    refine o_run hf (r_assign hf rfl) rfl fun a hf => ?_
                    refine o_nil ?_
                    refine c_then ?_
                    have ho := out_inj hp
                    subst ho
                    exact ⟨((y628.t_.length : Int) == 0), rfl, hw, hf.to ⟨rfl, trivial⟩⟩
                · intro a w hM
                  obtain ⟨y2199, rfl, hw, hf⟩ := hM
                  replace hp := hq2201
                  refine wp_ret ?_
                  have ho := out_inj hp
                  subst ho
                  exact b_ret1 hf Go.Proofs.Tryd.results4 rfl ⟨_, rfl, ⟨rfl, (hw.back (IH.le_trans (IH.le_trans (IH.le_trans (IH.le_trans hle627 hle638) hle662) hle672) hle2196) (List.Sublist.refl _))⟩⟩
end Go.Lf
