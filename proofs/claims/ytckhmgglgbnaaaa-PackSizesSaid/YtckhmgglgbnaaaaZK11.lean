/- The Go functions compute the plain Lean functions (printed by our lift.py). -/
import Derived.Test.YtckhmgglgbnaaaaZD
import Derived.Test.YtckhmgglgbnaaaaZF
import Derived.Test.YtckhmgglgbnaaaaZK0
import Derived.Test.YtckhmgglgbnaaaaZK1
import Derived.Test.YtckhmgglgbnaaaaZK6
import Derived.Test.YtckhmgglgbnaaaaZK7
import Derived.Test.YtckhmgglgbnaaaaZK8
set_option linter.unusedVariables false
set_option linter.unusedSimpArgs false
namespace Go.Lf
open Go
set_option maxHeartbeats 1000000 in
set_option maxRecDepth 20000 in
theorem law19_PackSizes_ok {E : World} {I : IH} {F : List Atom} {w : World} {a0 : List Pair} {a0v18373 : Value} {res0 : Bool} (hw : Ok E I (F) w) (hR18374 : RS ek_Pair I a0v18373 a0) (hp : law19_PackSizes.f a0 = some res0) :
    Calls P 7 ⟨[a0v18373]⟩ w fun e w' => ∃ v, e = .returned v ∧ v = Value.bool res0 ∧ Ok E I (F) w' := by
  refine c_enter Go.Proofs.Try.func7 rfl Go.Proofs.Try.ntmps7 rfl fun a hf => ?_
  replace hf : Fr 90 [(0, a0v18373)] a := hf
  unfold law19_PackSizes.f at hp
  refine wp_seq ?_
  refine wp_region_lit ?_
  refine o_run hf (r_assign hf rfl) rfl fun a hf => ?_
  refine o_nil ?_
  refine c_then ?_
  refine wp_seq ?_
  obtain ⟨out77, hp, hq78⟩ := bind_some hp
  refine c_cut (fun a w => ∃ y76 : Bool, y76 = out77 ∧ Ok E I (F) w ∧ Fr 90 ([(0, a0v18373), (20, Value.bool y76)]) a) ?_ ?_
  · refine wp_region_lit ?_
    refine o_run hf (r_move hf rfl) rfl fun a hf => ?_
    obtain ⟨y79, hy80, hp⟩ := bind_some hp
    have hc82 := keep_LongPairs_ok hw hR18374 hy80
    refine o_call hf cb_22 rfl rfl hc82 (fun v84 w a hK83 hf => ?_)
    obtain ⟨rfl, hw⟩ := hK83
    refine o_run hf (r_move hf rfl) rfl fun a hf => ?_
    refine g_split hf (g := 16) rfl (fun hb85 hf => ?_) (fun hb85 hf => ?_)
    · replace hp := cond_t hb85 hp
      refine o_skip hf (g := 16) rfl rfl rfl rfl rfl rfl fun a hf => ?_
      refine o_skip hf (g := 16) rfl rfl rfl rfl rfl rfl fun a hf => ?_
      refine o_skip hf (g := 16) rfl rfl rfl rfl rfl rfl fun a hf => ?_
      refine o_run hf (r_pickT hf rfl rfl) rfl fun a hf => ?_
      refine o_nil ?_
      refine c_then ?_
      have ho := out_inj hp
      subst ho
      exact ⟨true, rfl, hw, hf.to ⟨rfl, rfl, trivial⟩⟩
    · replace hp := cond_f hb85 hp
      refine o_want hf (g := 16) rfl rfl ?_
      refine o_run hf (r_move hf rfl) rfl fun a hf => ?_
      refine o_want hf (g := 16) rfl rfl ?_
      obtain ⟨y86, hy87, hp⟩ := bind_some hp
      have hc89 := ref10_May_ok hw hR18374 hy87
      refine o_call hf cb_23 rfl rfl hc89 (fun v91 w a hK90 hf => ?_)
      obtain ⟨rfl, hw⟩ := hK90
      refine o_want hf (g := 16) rfl rfl ?_
      refine o_run hf (r_not hf rfl) rfl fun a hf => ?_
      refine o_run hf (r_pickF hf rfl rfl) rfl fun a hf => ?_
      refine o_nil ?_
      refine c_then ?_
      have ho := out_inj hp
      subst ho
      exact ⟨(!y86), rfl, hw, hf.to ⟨rfl, rfl, trivial⟩⟩
  · intro a w hM
    obtain ⟨y76, rfl, hw, hf⟩ := hM
    replace hp := hq78
    refine c_cond hf rfl (fun hb92 => ?_) (fun hb92 => ?_)
    · replace hp := cond_t hb92 hp
      refine wp_seq ?_
      refine wp_region_lit ?_
      obtain ⟨y93, hy94, hp⟩ := bind_some hp
      have hc96 := law19_wakes_ok hw hy94
      refine o_call hf cb_13 rfl rfl hc96 (fun v98 w a hK97 hf => ?_)
      obtain ⟨rfl, hw⟩ := hK97
      refine o_run hf (r_assign hf rfl) rfl fun a hf => ?_
      refine o_nil ?_
      refine c_then ?_
      refine wp_ret ?_
      refine c_thenR ?_
      have ho := out_inj hp
      subst ho
      exact b_ret1 hf Go.Proofs.Try.results7 rfl ⟨_, rfl, ⟨rfl, hw⟩⟩
    · replace hp := cond_f hb92 hp
      refine wp_skip ?_
      refine c_then ?_
      refine wp_seq ?_
      refine wp_region_lit ?_
      refine o_run hf (r_move hf rfl) rfl fun a hf => ?_
      obtain ⟨y99, hy100, hp⟩ := bind_some hp
      have hc102 := ref10_Build_ok hw hR18374 hy100
      refine o_call hf cb_24 rfl rfl hc102 (fun v108 w a hK103 hf => ?_)
      obtain ⟨I2_103, rvv104, rvv106, rfl, hle109, hw, hR105, hR107⟩ := hK103
      replace hR18374 := hR18374.mono hle109
      refine o_run hf (r_field hf rfl fd_47_0 ty_23 rfl) rfl fun a hf => ?_
      refine o_run hf (r_assign hf rfl) rfl fun a hf => ?_
      refine o_nil ?_
      refine c_then ?_
      refine wp_seq ?_
      refine wp_region_lit ?_
      refine o_run hf (r_move hf rfl) rfl fun a hf => ?_
      obtain ⟨y113, hy112, hp⟩ := bind_some hp
      obtain ⟨y110, y111⟩ := y113
      have hc114 := pack_Of_ok hw hR105 hy112
      refine o_call hf cb_14 rfl rfl hc114 (fun v118 w a hK115 hf => ?_)
      obtain ⟨I2_115, rvv116, rfl, hle119, hw, hR117⟩ := hK115
      replace hR18374 := hR18374.mono hle119
      replace hR105 := hR105.mono hle119
      replace hR107 := hR107.mono hle119
      refine o_run hf (r_move hf rfl) rfl fun a hf => ?_
      refine o_run hf (r_extract hf rfl rfl) rfl fun a hf => ?_
      refine o_run hf (r_extract hf rfl rfl) rfl fun a hf => ?_
      refine o_run hf (r_assign hf rfl) rfl fun a hf => ?_
      refine o_run hf (r_assign hf rfl) rfl fun a hf => ?_
      refine o_nil ?_
      refine c_then ?_
      refine wp_seq ?_
      refine wp_seq ?_
      refine wp_region_lit ?_
      refine o_run hf (r_move hf rfl) rfl fun a hf => ?_
      refine o_run hf (r_not hf rfl) rfl fun a hf => ?_
      refine o_nil ?_
      refine c_then ?_
      refine c_cond hf rfl (fun hb120 => ?_) (fun hb120 => ?_)
      · replace hp := cond_t hb120 hp
        refine wp_seq ?_
        refine wp_region_lit ?_
        refine o_run hf (r_assign hf rfl) rfl fun a hf => ?_
        refine o_nil ?_
        refine c_then ?_
        refine wp_ret ?_
        refine c_thenR ?_
        have ho := out_inj hp
        subst ho
        exact b_ret1 hf Go.Proofs.Try.results7 rfl ⟨_, rfl, ⟨rfl, (hw.back (IH.le_trans hle109 hle119) (List.Sublist.refl _))⟩⟩
      · replace hp := cond_f hb120 hp
        refine wp_skip ?_
        refine c_then ?_
        refine wp_seq ?_
        refine wp_region_lit ?_
        refine o_run hf (r_assign hf rfl) rfl fun a hf => ?_
        refine o_run hf (r_assign hf rfl) rfl fun a hf => ?_
        refine o_nil ?_
        refine c_then ?_
        refine wp_seq ?_
        refine wp_seq ?_
        refine wp_region_lit ?_
        refine o_run hf (r_assign hf rfl) rfl fun a hf => ?_
        refine o_nil ?_
        refine c_then ?_
        obtain ⟨out291, hp, hq292⟩ := bind_some hp
        refine c_cutX (fun a w => ∃ y290 : Int, (.inl y290) = out291 ∧ Ok E I2_115 (F) w ∧ Fr 90 ([(3, rvv104), (4, rvv116), (6, Value.int .i64 y290), (7, Value.int .i64 0)]) a) ?_ ?_
        · refine wp_block ?_
          refine c_loop ?_
          refine c_fuel (law19_PackSizes.l0 y99) out291 (fun (y233, y234) a w => Ok E I2_115 (F) w ∧ Fr 90 ([(3, rvv104), (4, rvv116), (6, Value.int .i64 y233), (7, Value.int .i64 0), (8, Value.int .i64 y234)]) a) (fun _ => rfl) ?_ BIG (0, 0) _ _ ⟨hw, hf.to ⟨rfl, rfl, rfl, rfl, rfl, trivial⟩⟩ hp
          intro k st a w hI hp ih
          obtain ⟨y233, y234⟩ := st
          obtain ⟨hw, hf⟩ := hI
          rw [law19_PackSizes.l0] at hp
          refine wp_seq ?_
          refine wp_seq ?_
          refine wp_region_lit ?_
          refine o_run hf (r_move hf rfl) rfl fun a hf => ?_
          refine o_run hf (r_move hf rfl) rfl fun a hf => ?_
          refine o_run hf (r_lenL (K := ek_Node) hf el_23 rfl (hR105.rd hw)) rfl fun a hf => ?_
          refine o_run hf (r_icmp hf rfl rfl rfl) rfl fun a hf => ?_
          refine o_nil ?_
          refine c_then ?_
          refine c_cond hf rfl (fun hb294 => ?_) (fun hb294 => ?_)
          · replace hp := cond_t hb294 hp
            refine wp_skip ?_
            refine c_then ?_
            refine wp_seq ?_
            refine wp_block ?_
            refine wp_seq ?_
            refine wp_region_lit ?_
            refine o_run hf (r_move hf rfl) rfl fun a hf => ?_
            refine o_run hf (r_move hf rfl) rfl fun a hf => ?_
            obtain ⟨y325, hy324, hp⟩ := bind_some hp
            obtain ⟨y322, y323⟩ := y325
            have hc326 := pack_Size_ok hw hR105 hy324
            refine o_call hf cb_16 rfl rfl hc326 (fun v328 w a hK327 hf => ?_)
            obtain ⟨rfl, hw⟩ := hK327
            refine o_run hf (r_move hf rfl) rfl fun a hf => ?_
            refine o_run hf (r_extract hf rfl rfl) rfl fun a hf => ?_
            refine o_run hf (r_extract hf rfl rfl) rfl fun a hf => ?_
            refine o_run hf (r_assign hf rfl) rfl fun a hf => ?_
            refine o_run hf (r_assign hf rfl) rfl fun a hf => ?_
            refine o_nil ?_
            refine c_then ?_
            refine wp_seq ?_
            obtain ⟨out344, hp, hq345⟩ := bind_some hp
            refine c_cut (fun a w => ∃ y343 : Bool, y343 = out344 ∧ Ok E I2_115 (F) w ∧ Fr 90 ([(3, rvv104), (4, rvv116), (6, Value.int .i64 y233), (7, Value.int .i64 0), (8, Value.int .i64 y234), (9, Value.int .i64 y322), (53, Value.bool y343)]) a) ?_ ?_
            · refine wp_region_lit ?_
              refine o_run hf (r_move hf rfl) rfl fun a hf => ?_
              refine o_run hf (r_not hf rfl) rfl fun a hf => ?_
              refine o_run hf (r_move hf rfl) rfl fun a hf => ?_
              refine g_split hf (g := 46) rfl (fun hb346 hf => ?_) (fun hb346 hf => ?_)
              · replace hp := cond_t hb346 hp
                refine o_skip hf (g := 46) rfl rfl rfl rfl rfl rfl fun a hf => ?_
                refine o_skip hf (g := 46) rfl rfl rfl rfl rfl rfl fun a hf => ?_
                refine o_run hf (r_pickT hf rfl rfl) rfl fun a hf => ?_
                refine o_run hf (r_move hf rfl) rfl fun a hf => ?_
                refine o_skip hf (g := 50) rfl rfl rfl rfl rfl rfl fun a hf => ?_
                refine o_skip hf (g := 50) rfl rfl rfl rfl rfl rfl fun a hf => ?_
                refine o_run hf (r_pickT hf rfl rfl) rfl fun a hf => ?_
                refine o_nil ?_
                refine c_then ?_
                have ho := out_inj hp
                subst ho
                exact ⟨true, rfl, hw, hf.to ⟨rfl, rfl, rfl, rfl, rfl, rfl, rfl, trivial⟩⟩
              · replace hp := cond_f hb346 hp
                refine o_want hf (g := 46) rfl rfl ?_
                refine o_run hf (r_move hf rfl) rfl fun a hf => ?_
                refine o_want hf (g := 46) rfl rfl ?_
                refine o_run hf (r_icmp hf rfl rfl rfl) rfl fun a hf => ?_
                refine o_run hf (r_pickF hf rfl rfl) rfl fun a hf => ?_
                refine o_run hf (r_move hf rfl) rfl fun a hf => ?_
                refine g_split hf (g := 50) rfl (fun hb347 hf => ?_) (fun hb347 hf => ?_)
                · replace hp := cond_t hb347 hp
                  refine o_skip hf (g := 50) rfl rfl rfl rfl rfl rfl fun a hf => ?_
                  refine o_skip hf (g := 50) rfl rfl rfl rfl rfl rfl fun a hf => ?_
                  refine o_run hf (r_pickT hf rfl rfl) rfl fun a hf => ?_
                  refine o_nil ?_
                  refine c_then ?_
                  have ho := out_inj hp
                  subst ho
                  exact ⟨true, rfl, hw, hf.to ⟨rfl, rfl, rfl, rfl, rfl, rfl, rfl, trivial⟩⟩
                · replace hp := cond_f hb347 hp
                  refine o_want hf (g := 50) rfl rfl ?_
                  refine o_run hf (r_move hf rfl) rfl fun a hf => ?_
                  refine o_want hf (g := 50) rfl rfl ?_
                  refine o_run hf (r_icmp hf rfl rfl rfl) rfl fun a hf => ?_
                  refine o_run hf (r_pickF hf rfl rfl) rfl fun a hf => ?_
                  refine o_nil ?_
                  refine c_then ?_
                  have ho := out_inj hp
                  subst ho
                  exact ⟨(decide (y322 > 69)), rfl, hw, hf.to ⟨rfl, rfl, rfl, rfl, rfl, rfl, rfl, trivial⟩⟩
            · intro a w hM
              obtain ⟨y343, rfl, hw, hf⟩ := hM
              replace hp := hq345
              refine c_cond hf rfl (fun hb348 => ?_) (fun hb348 => ?_)
              · replace hp := cond_t hb348 hp
                refine wp_seq ?_
                refine wp_region_lit ?_
                refine o_run hf (r_assign hf rfl) rfl fun a hf => ?_
                refine o_nil ?_
                refine c_then ?_
                refine wp_ret ?_
                refine c_thenR ?_
                refine c_blockR ?_
                refine c_thenR ?_
                refine c_thenR ?_
                refine c_blockR ?_
                refine c_thenR ?_
                have ho := out_inj hp
                subst ho
                replace hp := hq292
                refine c_thenR ?_
                have ho := out_inj hp
                subst ho
                exact b_ret1 hf Go.Proofs.Try.results7 rfl ⟨_, rfl, ⟨rfl, (hw.back (IH.le_trans hle109 hle119) (List.Sublist.refl _))⟩⟩
              · replace hp := cond_f hb348 hp
                refine wp_skip ?_
                refine c_then ?_
                refine wp_region_lit ?_
                refine o_run hf (r_move hf rfl) rfl fun a hf => ?_
                refine o_run hf (r_move hf rfl) rfl fun a hf => ?_
                refine o_run hf (r_add hf rfl rfl) rfl fun a hf => ?_
                refine o_run hf (r_assign hf rfl) rfl fun a hf => ?_
                refine o_nil ?_
                refine c_blockN ?_
                refine c_then ?_
                refine wp_region_lit ?_
                refine o_run hf (r_move hf rfl) rfl fun a hf => ?_
                refine o_run hf (r_add hf rfl rfl) rfl fun a hf => ?_
                refine o_run hf (r_assign hf rfl) rfl fun a hf => ?_
                refine o_nil ?_
                refine c_then ?_
                exact ih (w64 (y233 + y322), w64 (y234 + 1)) _ _ ⟨hw, hf.to ⟨rfl, rfl, rfl, rfl, rfl, trivial⟩⟩ hp
          · replace hp := cond_f hb294 hp
            refine wp_exit ?_
            refine c_thenE ?_
            refine c_thenE ?_
            refine c_exit ?_
            refine c_then ?_
            have ho := out_inj hp
            subst ho
            exact ⟨y233, rfl, hw, hf.to ⟨rfl, rfl, rfl, rfl, trivial⟩⟩
        · intro a w hM
          obtain ⟨y290, rfl, hw, hf⟩ := hM
          replace hp := hq292
          refine c_then ?_
          refine wp_seq ?_
          refine wp_seq ?_
          refine wp_region_lit ?_
          refine o_run hf (r_assign hf rfl) rfl fun a hf => ?_
          refine o_nil ?_
          refine c_then ?_
          obtain ⟨out403, hp, hq404⟩ := bind_some hp
          refine c_cutX (fun a w => ∃ y402 : Int, (.inl y402) = out403 ∧ Ok E I2_115 (F) w ∧ Fr 90 ([(3, rvv104), (4, rvv116), (6, Value.int .i64 y290), (7, Value.int .i64 y402)]) a) ?_ ?_
          · refine wp_block ?_
            refine c_loop ?_
            refine c_fuel (law19_PackSizes.l1 y99 y110) out403 (fun (y384, y385) a w => Ok E I2_115 (F) w ∧ Fr 90 ([(3, rvv104), (4, rvv116), (6, Value.int .i64 y290), (7, Value.int .i64 y385), (11, Value.int .i64 y384)]) a) (fun _ => rfl) ?_ BIG (0, 0) _ _ ⟨hw, hf.to ⟨rfl, rfl, rfl, rfl, rfl, trivial⟩⟩ hp
            intro k st a w hI hp ih
            obtain ⟨y384, y385⟩ := st
            obtain ⟨hw, hf⟩ := hI
            rw [law19_PackSizes.l1] at hp
            refine wp_seq ?_
            refine wp_seq ?_
            refine wp_region_lit ?_
            refine o_run hf (r_move hf rfl) rfl fun a hf => ?_
            refine o_run hf (r_move hf rfl) rfl fun a hf => ?_
            refine o_run hf (r_lenL (K := ek_Plan) hf el_29 rfl (hR117.rd hw)) rfl fun a hf => ?_
            refine o_run hf (r_icmp hf rfl rfl rfl) rfl fun a hf => ?_
            refine o_nil ?_
            refine c_then ?_
            refine c_cond hf rfl (fun hb406 => ?_) (fun hb406 => ?_)
            · replace hp := cond_t hb406 hp
              refine wp_skip ?_
              refine c_then ?_
              refine wp_seq ?_
              refine wp_block ?_
              refine wp_seq ?_
              refine wp_region_lit ?_
              refine o_run hf (r_move hf rfl) rfl fun a hf => ?_
              refine o_run hf (r_move hf rfl) rfl fun a hf => ?_
              refine o_run hf (r_move hf rfl) rfl fun a hf => ?_
              obtain ⟨hg407, hp⟩ := gd_some hp
              refine o_run hf (r_indexAddr (K := ek_Plan) hf el_29 rfl rfl (hR117.rd hw) hg407) rfl fun a hf => ?_
              obtain ⟨_, ⟨vv408, vv410, rfl, hR409, hR411⟩, hrun413⟩ := rs_loadHA (P := P) ty_26 hR117 hg407 rfl (fun cs h => Plan_all h)
              refine o_run hf (hrun413 _ _ _ _ _ _ _ _ _ _ _ _ hw hf rfl) rfl fun a hf => ?_
              obtain ⟨y417, hy416, hp⟩ := bind_some hp
              obtain ⟨y414, y415⟩ := y417
              have hc418 := pack_Bytes_ok hw hR105 hR409 hR411 hy416
              refine o_call hf cb_18 rfl rfl hc418 (fun v420 w a hK419 hf => ?_)
              obtain ⟨rfl, hw⟩ := hK419
              refine o_run hf (r_move hf rfl) rfl fun a hf => ?_
              refine o_run hf (r_extract hf rfl rfl) rfl fun a hf => ?_
              refine o_run hf (r_extract hf rfl rfl) rfl fun a hf => ?_
              refine o_run hf (r_assign hf rfl) rfl fun a hf => ?_
              refine o_run hf (r_assign hf rfl) rfl fun a hf => ?_
              refine o_nil ?_
              refine c_then ?_
              refine wp_seq ?_
              refine wp_seq ?_
              refine wp_region_lit ?_
              refine o_run hf (r_move hf rfl) rfl fun a hf => ?_
              refine o_run hf (r_not hf rfl) rfl fun a hf => ?_
              refine o_nil ?_
              refine c_then ?_
              refine c_cond hf rfl (fun hb421 => ?_) (fun hb421 => ?_)
              · replace hp := cond_t hb421 hp
                refine wp_seq ?_
                refine wp_region_lit ?_
                refine o_run hf (r_assign hf rfl) rfl fun a hf => ?_
                refine o_nil ?_
                refine c_then ?_
                refine wp_ret ?_
                refine c_thenR ?_
                refine c_blockR ?_
                refine c_thenR ?_
                refine c_thenR ?_
                refine c_blockR ?_
                refine c_thenR ?_
                have ho := out_inj hp
                subst ho
                replace hp := hq404
                refine c_thenR ?_
                have ho := out_inj hp
                subst ho
                exact b_ret1 hf Go.Proofs.Try.results7 rfl ⟨_, rfl, ⟨rfl, (hw.back (IH.le_trans hle109 hle119) (List.Sublist.refl _))⟩⟩
              · replace hp := cond_f hb421 hp
                refine wp_skip ?_
                refine c_then ?_
                refine wp_region_lit ?_
                refine o_run hf (r_move hf rfl) rfl fun a hf => ?_
                refine o_run hf (r_move hf rfl) rfl fun a hf => ?_
                refine o_run hf (r_add hf rfl rfl) rfl fun a hf => ?_
                refine o_run hf (r_assign hf rfl) rfl fun a hf => ?_
                refine o_nil ?_
                refine c_blockN ?_
                refine c_then ?_
                refine wp_region_lit ?_
                refine o_run hf (r_move hf rfl) rfl fun a hf => ?_
                refine o_run hf (r_add hf rfl rfl) rfl fun a hf => ?_
                refine o_run hf (r_assign hf rfl) rfl fun a hf => ?_
                refine o_nil ?_
                refine c_then ?_
                exact ih (w64 (y384 + 1), w64 (y385 + y414)) _ _ ⟨hw, hf.to ⟨rfl, rfl, rfl, rfl, rfl, trivial⟩⟩ hp
            · replace hp := cond_f hb406 hp
              refine wp_exit ?_
              refine c_thenE ?_
              refine c_thenE ?_
              refine c_exit ?_
              refine c_then ?_
              have ho := out_inj hp
              subst ho
              exact ⟨y385, rfl, hw, hf.to ⟨rfl, rfl, rfl, rfl, trivial⟩⟩
          · intro a w hM
            obtain ⟨y402, rfl, hw, hf⟩ := hM
            replace hp := hq404
            refine c_then ?_
            obtain ⟨out438, hp, hq439⟩ := bind_some hp
            refine c_cut (fun a w => ∃ y437 : Bool, y437 = out438 ∧ Ok E I2_115 (F) w ∧ Fr 90 ([(2, Value.bool y437)]) a) ?_ ?_
            · refine wp_region_lit ?_
              refine o_run hf (r_move hf rfl) rfl fun a hf => ?_
              refine o_run hf (r_move hf rfl) rfl fun a hf => ?_
              refine o_run hf (r_move hf rfl) rfl fun a hf => ?_
              refine o_run hf (r_lenL (K := ek_Node) hf el_23 rfl (hR105.rd hw)) rfl fun a hf => ?_
              refine o_run hf (r_move hf rfl) rfl fun a hf => ?_
              refine o_run hf (r_lenL (K := ek_Plan) hf el_29 rfl (hR117.rd hw)) rfl fun a hf => ?_
              refine o_run hf (r_sub hf rfl rfl) rfl fun a hf => ?_
              refine o_run hf (r_mul hf rfl rfl) rfl fun a hf => ?_
              refine o_run hf (r_add hf rfl rfl) rfl fun a hf => ?_
              refine o_run hf (r_icmp hf rfl rfl rfl) rfl fun a hf => ?_
              refine o_run hf (r_move hf rfl) rfl fun a hf => ?_
              refine g_split hf (g := 87) rfl (fun hb440 hf => ?_) (fun hb440 hf => ?_)
              · replace hp := cond_t hb440 hp
                refine o_want hf (g := 87) rfl rfl ?_
                obtain ⟨y441, hy442, hp⟩ := bind_some hp
                have hc444 := law19_wakes_ok hw hy442
                refine o_call hf cb_13 rfl rfl hc444 (fun v446 w a hK445 hf => ?_)
                obtain ⟨rfl, hw⟩ := hK445
                refine o_run hf (r_pickT hf rfl rfl) rfl fun a hf => ?_
                refine o_run hf (r_assign hf rfl) rfl fun a hf => ?_
                refine o_nil ?_
                refine c_then ?_
                have ho := out_inj hp
                subst ho
                exact ⟨y441, rfl, hw, hf.to ⟨rfl, trivial⟩⟩
              · replace hp := cond_f hb440 hp
                refine o_skip hf (g := 87) rfl rfl rfl rfl rfl rfl fun a hf => ?_
                refine o_run hf (r_pickF hf rfl rfl) rfl fun a hf => ?_
                refine o_run hf (r_assign hf rfl) rfl fun a hf => ?_
                refine o_nil ?_
                refine c_then ?_
                have ho := out_inj hp
                subst ho
                exact ⟨false, rfl, hw, hf.to ⟨rfl, trivial⟩⟩
            · intro a w hM
              obtain ⟨y437, rfl, hw, hf⟩ := hM
              replace hp := hq439
              refine wp_ret ?_
              have ho := out_inj hp
              subst ho
              exact b_ret1 hf Go.Proofs.Try.results7 rfl ⟨_, rfl, ⟨rfl, (hw.back (IH.le_trans hle109 hle119) (List.Sublist.refl _))⟩⟩
end Go.Lf
