/- The Go functions compute the plain Lean functions (printed by our lift.py). -/
import Derived.Test.YtckhmgglgbnaaaaYD
import Derived.Test.YtckhmgglgbnaaaaYF
import Derived.Test.YtckhmgglgbnaaaaYK0
import Derived.Test.YtckhmgglgbnaaaaYK1
import Derived.Test.YtckhmgglgbnaaaaYK6
import Derived.Test.YtckhmgglgbnaaaaYK7
import Derived.Test.YtckhmgglgbnaaaaYK8
set_option linter.unusedVariables false
set_option linter.unusedSimpArgs false
namespace Go.Lf
open Go
set_option maxHeartbeats 1000000 in
set_option maxRecDepth 20000 in
theorem law19_PackSizes_ok {E : World} {I : IH} {F : List Atom} {w : World} {a0 : List Pair} {a0v1 : Value} {res0 : Bool} (hw : Ok E I (F) w) (hR2 : RS ek_Pair I a0v1 a0) (hp : law19_PackSizes.f a0 = some res0) :
    Calls P 7 ⟨[a0v1]⟩ w fun e w' => ∃ v, e = .returned v ∧ v = Value.bool res0 ∧ Ok E I (F) w' := by
  refine c_enter Go.Proofs.Try.func7 rfl Go.Proofs.Try.ntmps7 rfl fun a hf => ?_
  replace hf : Fr 90 [(0, a0v1)] a := hf
  unfold law19_PackSizes.f at hp
  refine wp_seq ?_
  refine wp_region_lit ?_
  refine o_run hf (r_assign hf rfl) rfl fun a hf => ?_
  refine o_nil ?_
  refine c_then ?_
  refine wp_seq ?_
  obtain ⟨out160, hp, hq161⟩ := bind_some hp
  refine c_cut (fun a w => ∃ y159 : Bool, y159 = out160 ∧ Ok E I (F) w ∧ Fr 90 ([(0, a0v1), (20, Value.bool y159)]) a) ?_ ?_
  · refine wp_region_lit ?_
    refine o_run hf (r_move hf rfl) rfl fun a hf => ?_
    obtain ⟨y162, hy163, hp⟩ := bind_some hp
    have hc165 := keep_LongPairs_ok hw hR2 hy163
    refine o_call hf cb_22 rfl rfl hc165 (fun v167 w a hK166 hf => ?_)
    obtain ⟨rfl, hw⟩ := hK166
    refine o_run hf (r_move hf rfl) rfl fun a hf => ?_
    refine g_split hf (g := 16) rfl (fun hb168 hf => ?_) (fun hb168 hf => ?_)
    · replace hp := cond_t hb168 hp
      refine o_skip hf (g := 16) rfl rfl rfl rfl rfl rfl fun a hf => ?_
      refine o_skip hf (g := 16) rfl rfl rfl rfl rfl rfl fun a hf => ?_
      refine o_skip hf (g := 16) rfl rfl rfl rfl rfl rfl fun a hf => ?_
      refine o_run hf (r_pickT hf rfl rfl) rfl fun a hf => ?_
      refine o_nil ?_
      refine c_then ?_
      have ho := out_inj hp
      subst ho
      exact ⟨true, rfl, hw, hf.to ⟨rfl, rfl, trivial⟩⟩
    · replace hp := cond_f hb168 hp
      refine o_want hf (g := 16) rfl rfl ?_
      refine o_run hf (r_move hf rfl) rfl fun a hf => ?_
      refine o_want hf (g := 16) rfl rfl ?_
      obtain ⟨y169, hy170, hp⟩ := bind_some hp
      have hc172 := ref10_May_ok hw hR2 hy170
      refine o_call hf cb_23 rfl rfl hc172 (fun v174 w a hK173 hf => ?_)
      obtain ⟨rfl, hw⟩ := hK173
      refine o_want hf (g := 16) rfl rfl ?_
      refine o_run hf (r_not hf rfl) rfl fun a hf => ?_
      refine o_run hf (r_pickF hf rfl rfl) rfl fun a hf => ?_
      refine o_nil ?_
      refine c_then ?_
      have ho := out_inj hp
      subst ho
      exact ⟨(!y169), rfl, hw, hf.to ⟨rfl, rfl, trivial⟩⟩
  · intro a w hM
    obtain ⟨y159, rfl, hw, hf⟩ := hM
    replace hp := hq161
    refine c_cond hf rfl (fun hb175 => ?_) (fun hb175 => ?_)
    · replace hp := cond_t hb175 hp
      refine wp_seq ?_
      refine wp_region_lit ?_
      obtain ⟨y176, hy177, hp⟩ := bind_some hp
      have hc179 := law19_wakes_ok hw hy177
      refine o_call hf cb_13 rfl rfl hc179 (fun v181 w a hK180 hf => ?_)
      obtain ⟨rfl, hw⟩ := hK180
      refine o_run hf (r_assign hf rfl) rfl fun a hf => ?_
      refine o_nil ?_
      refine c_then ?_
      refine wp_ret ?_
      refine c_thenR ?_
      have ho := out_inj hp
      subst ho
      exact b_ret1 hf Go.Proofs.Try.results7 rfl ⟨_, rfl, ⟨rfl, hw⟩⟩
    · replace hp := cond_f hb175 hp
      refine wp_skip ?_
      refine c_then ?_
      refine wp_seq ?_
      refine wp_region_lit ?_
      refine o_run hf (r_move hf rfl) rfl fun a hf => ?_
      obtain ⟨y182, hy183, hp⟩ := bind_some hp
      have hc185 := ref10_Build_ok hw hR2 hy183
      refine o_call hf cb_24 rfl rfl hc185 (fun v191 w a hK186 hf => ?_)
      obtain ⟨I2_186, rvv187, rvv189, rfl, hle192, hw, hR188, hR190⟩ := hK186
      replace hR2 := hR2.mono hle192
      refine o_run hf (r_field hf rfl fd_47_0 ty_23 rfl) rfl fun a hf => ?_
      refine o_run hf (r_assign hf rfl) rfl fun a hf => ?_
      refine o_nil ?_
      refine c_then ?_
      refine wp_seq ?_
      refine wp_region_lit ?_
      refine o_run hf (r_move hf rfl) rfl fun a hf => ?_
      obtain ⟨y196, hy195, hp⟩ := bind_some hp
      obtain ⟨y193, y194⟩ := y196
      have hc197 := pack_Of_ok hw hR188 hy195
      refine o_call hf cb_14 rfl rfl hc197 (fun v201 w a hK198 hf => ?_)
      obtain ⟨I2_198, rvv199, rfl, hle202, hw, hR200⟩ := hK198
      replace hR2 := hR2.mono hle202
      replace hR188 := hR188.mono hle202
      replace hR190 := hR190.mono hle202
      refine o_run hf (r_move hf rfl) rfl fun a hf => ?_
      refine o_run hf (r_extract hf rfl rfl) rfl fun a hf => ?_
      refine o_run hf (r_extract hf rfl rfl) rfl fun a hf => ?_
      refine o_run hf (r_assign hf rfl) rfl fun a hf => ?_
      refine o_run hf (r_assign hf rfl) rfl fun a hf => ?_
      refine o_nil ?_
      refine c_then ?_
      refine wp_seq ?_
      refine wp_seq ?_
      refine wp_region_lit ?_
      refine o_run hf (r_move hf rfl) rfl fun a hf => ?_
      refine o_run hf (r_not hf rfl) rfl fun a hf => ?_
      refine o_nil ?_
      refine c_then ?_
      refine c_cond hf rfl (fun hb203 => ?_) (fun hb203 => ?_)
      · replace hp := cond_t hb203 hp
        refine wp_seq ?_
        refine wp_region_lit ?_
        refine o_run hf (r_assign hf rfl) rfl fun a hf => ?_
        refine o_nil ?_
        refine c_then ?_
        refine wp_ret ?_
        refine c_thenR ?_
        have ho := out_inj hp
        subst ho
        exact b_ret1 hf Go.Proofs.Try.results7 rfl ⟨_, rfl, ⟨rfl, (hw.back (IH.le_trans hle192 hle202) (List.Sublist.refl _))⟩⟩
      · replace hp := cond_f hb203 hp
        refine wp_skip ?_
        refine c_then ?_
        refine wp_seq ?_
        refine wp_region_lit ?_
        refine o_run hf (r_assign hf rfl) rfl fun a hf => ?_
        refine o_run hf (r_assign hf rfl) rfl fun a hf => ?_
        refine o_nil ?_
        refine c_then ?_
        refine wp_seq ?_
        refine wp_seq ?_
        refine wp_region_lit ?_
        refine o_run hf (r_assign hf rfl) rfl fun a hf => ?_
        refine o_nil ?_
        refine c_then ?_
        obtain ⟨out374, hp, hq375⟩ := bind_some hp
        refine c_cutX (fun a w => ∃ y373 : Int, (.inl y373) = out374 ∧ Ok E I2_198 (F) w ∧ Fr 90 ([(3, rvv187), (4, rvv199), (6, Value.int .i64 y373), (7, Value.int .i64 0)]) a) ?_ ?_
        · refine wp_block ?_
          refine c_loop ?_
          refine c_fuel (law19_PackSizes.l0 y182) out374 (fun (y316, y317) a w => Ok E I2_198 (F) w ∧ Fr 90 ([(3, rvv187), (4, rvv199), (6, Value.int .i64 y316), (7, Value.int .i64 0), (8, Value.int .i64 y317)]) a) (fun _ => rfl) ?_ BIG (0, 0) _ _ ⟨hw, hf.to ⟨rfl, rfl, rfl, rfl, rfl, trivial⟩⟩ hp
          intro k st a w hI hp ih
          obtain ⟨y316, y317⟩ := st
          obtain ⟨hw, hf⟩ := hI
          rw [law19_PackSizes.l0] at hp
          refine wp_seq ?_
          refine wp_seq ?_
          refine wp_region_lit ?_
          refine o_run hf (r_move hf rfl) rfl fun a hf => ?_
          refine o_run hf (r_move hf rfl) rfl fun a hf => ?_
          refine o_run hf (r_lenL (K := ek_Node) hf el_23 rfl (hR188.rd hw)) rfl fun a hf => ?_
          refine o_run hf (r_icmp hf rfl rfl rfl) rfl fun a hf => ?_
          refine o_nil ?_
          refine c_then ?_
          refine c_cond hf rfl (fun hb377 => ?_) (fun hb377 => ?_)
          · replace hp := cond_t hb377 hp
            refine wp_skip ?_
            refine c_then ?_
            refine wp_seq ?_
            refine wp_block ?_
            refine wp_seq ?_
            refine wp_region_lit ?_
            refine o_run hf (r_move hf rfl) rfl fun a hf => ?_
            refine o_run hf (r_move hf rfl) rfl fun a hf => ?_
            obtain ⟨y408, hy407, hp⟩ := bind_some hp
            obtain ⟨y405, y406⟩ := y408
            have hc409 := pack_Size_ok hw hR188 hy407
            refine o_call hf cb_16 rfl rfl hc409 (fun v411 w a hK410 hf => ?_)
            obtain ⟨rfl, hw⟩ := hK410
            refine o_run hf (r_move hf rfl) rfl fun a hf => ?_
            refine o_run hf (r_extract hf rfl rfl) rfl fun a hf => ?_
            refine o_run hf (r_extract hf rfl rfl) rfl fun a hf => ?_
            refine o_run hf (r_assign hf rfl) rfl fun a hf => ?_
            refine o_run hf (r_assign hf rfl) rfl fun a hf => ?_
            refine o_nil ?_
            refine c_then ?_
            refine wp_seq ?_
            obtain ⟨out427, hp, hq428⟩ := bind_some hp
            refine c_cut (fun a w => ∃ y426 : Bool, y426 = out427 ∧ Ok E I2_198 (F) w ∧ Fr 90 ([(3, rvv187), (4, rvv199), (6, Value.int .i64 y316), (7, Value.int .i64 0), (8, Value.int .i64 y317), (9, Value.int .i64 y405), (53, Value.bool y426)]) a) ?_ ?_
            · refine wp_region_lit ?_
              refine o_run hf (r_move hf rfl) rfl fun a hf => ?_
              refine o_run hf (r_not hf rfl) rfl fun a hf => ?_
              refine o_run hf (r_move hf rfl) rfl fun a hf => ?_
              refine g_split hf (g := 46) rfl (fun hb429 hf => ?_) (fun hb429 hf => ?_)
              · replace hp := cond_t hb429 hp
                refine o_skip hf (g := 46) rfl rfl rfl rfl rfl rfl fun a hf => ?_
                refine o_skip hf (g := 46) rfl rfl rfl rfl rfl rfl fun a hf => ?_
                refine o_run hf (r_pickT hf rfl rfl) rfl fun a hf => ?_
                refine o_run hf (r_move hf rfl) rfl fun a hf => ?_
                refine o_skip hf (g := 50) rfl rfl rfl rfl rfl rfl fun a hf => ?_
                refine o_skip hf (g := 50) rfl rfl rfl rfl rfl rfl fun a hf => ?_
                refine o_run hf (r_pickT hf rfl rfl) rfl fun a hf => ?_
                refine o_nil ?_
                refine c_then ?_
                have ho := out_inj hp
                subst ho
                exact ⟨true, rfl, hw, hf.to ⟨rfl, rfl, rfl, rfl, rfl, rfl, rfl, trivial⟩⟩
              · replace hp := cond_f hb429 hp
                refine o_want hf (g := 46) rfl rfl ?_
                refine o_run hf (r_move hf rfl) rfl fun a hf => ?_
                refine o_want hf (g := 46) rfl rfl ?_
                refine o_run hf (r_icmp hf rfl rfl rfl) rfl fun a hf => ?_
                refine o_run hf (r_pickF hf rfl rfl) rfl fun a hf => ?_
                refine o_run hf (r_move hf rfl) rfl fun a hf => ?_
                refine g_split hf (g := 50) rfl (fun hb430 hf => ?_) (fun hb430 hf => ?_)
                · replace hp := cond_t hb430 hp
                  refine o_skip hf (g := 50) rfl rfl rfl rfl rfl rfl fun a hf => ?_
                  refine o_skip hf (g := 50) rfl rfl rfl rfl rfl rfl fun a hf => ?_
                  refine o_run hf (r_pickT hf rfl rfl) rfl fun a hf => ?_
                  refine o_nil ?_
                  refine c_then ?_
                  have ho := out_inj hp
                  subst ho
                  exact ⟨true, rfl, hw, hf.to ⟨rfl, rfl, rfl, rfl, rfl, rfl, rfl, trivial⟩⟩
                · replace hp := cond_f hb430 hp
                  refine o_want hf (g := 50) rfl rfl ?_
                  refine o_run hf (r_move hf rfl) rfl fun a hf => ?_
                  refine o_want hf (g := 50) rfl rfl ?_
                  refine o_run hf (r_icmp hf rfl rfl rfl) rfl fun a hf => ?_
                  refine o_run hf (r_pickF hf rfl rfl) rfl fun a hf => ?_
                  refine o_nil ?_
                  refine c_then ?_
                  have ho := out_inj hp
                  subst ho
                  exact ⟨(decide (y405 > 69)), rfl, hw, hf.to ⟨rfl, rfl, rfl, rfl, rfl, rfl, rfl, trivial⟩⟩
            · intro a w hM
              obtain ⟨y426, rfl, hw, hf⟩ := hM
              replace hp := hq428
              refine c_cond hf rfl (fun hb431 => ?_) (fun hb431 => ?_)
              · replace hp := cond_t hb431 hp
                refine wp_seq ?_
                refine wp_region_lit ?_
                refine o_run hf (r_assign hf rfl) rfl fun a hf => ?_
                refine o_nil ?_
                refine c_then ?_
                refine wp_ret ?_
                refine c_thenR ?_
                refine c_blockR ?_
                refine c_thenR ?_
                refine c_thenR ?_
                refine c_blockR ?_
                refine c_thenR ?_
                have ho := out_inj hp
                subst ho
                replace hp := hq375
                refine c_thenR ?_
                have ho := out_inj hp
                subst ho
                exact b_ret1 hf Go.Proofs.Try.results7 rfl ⟨_, rfl, ⟨rfl, (hw.back (IH.le_trans hle192 hle202) (List.Sublist.refl _))⟩⟩
              · replace hp := cond_f hb431 hp
                refine wp_skip ?_
                refine c_then ?_
                refine wp_region_lit ?_
                refine o_run hf (r_move hf rfl) rfl fun a hf => ?_
                refine o_run hf (r_move hf rfl) rfl fun a hf => ?_
                refine o_run hf (r_add hf rfl rfl) rfl fun a hf => ?_
                refine o_run hf (r_assign hf rfl) rfl fun a hf => ?_
                refine o_nil ?_
                refine c_blockN ?_
                refine c_then ?_
                refine wp_region_lit ?_
                refine o_run hf (r_move hf rfl) rfl fun a hf => ?_
                refine o_run hf (r_add hf rfl rfl) rfl fun a hf => ?_
                refine o_run hf (r_assign hf rfl) rfl fun a hf => ?_
                refine o_nil ?_
                refine c_then ?_
                exact ih (w64 (y316 + y405), w64 (y317 + 1)) _ _ ⟨hw, hf.to ⟨rfl, rfl, rfl, rfl, rfl, trivial⟩⟩ hp
          · replace hp := cond_f hb377 hp
            refine wp_exit ?_
            refine c_thenE ?_
            refine c_thenE ?_
            refine c_exit ?_
            refine c_then ?_
            have ho := out_inj hp
            subst ho
            exact ⟨y316, rfl, hw, hf.to ⟨rfl, rfl, rfl, rfl, trivial⟩⟩
        · intro a w hM
          obtain ⟨y373, rfl, hw, hf⟩ := hM
          replace hp := hq375
          refine c_then ?_
          refine wp_seq ?_
          refine wp_seq ?_
          refine wp_region_lit ?_
          refine o_run hf (r_assign hf rfl) rfl fun a hf => ?_
          refine o_nil ?_
          refine c_then ?_
          obtain ⟨out486, hp, hq487⟩ := bind_some hp
          refine c_cutX (fun a w => ∃ y485 : Int, (.inl y485) = out486 ∧ Ok E I2_198 (F) w ∧ Fr 90 ([(3, rvv187), (4, rvv199), (6, Value.int .i64 y373), (7, Value.int .i64 y485)]) a) ?_ ?_
          · refine wp_block ?_
            refine c_loop ?_
            refine c_fuel (law19_PackSizes.l1 y182 y193) out486 (fun (y467, y468) a w => Ok E I2_198 (F) w ∧ Fr 90 ([(3, rvv187), (4, rvv199), (6, Value.int .i64 y373), (7, Value.int .i64 y468), (11, Value.int .i64 y467)]) a) (fun _ => rfl) ?_ BIG (0, 0) _ _ ⟨hw, hf.to ⟨rfl, rfl, rfl, rfl, rfl, trivial⟩⟩ hp
            intro k st a w hI hp ih
            obtain ⟨y467, y468⟩ := st
            obtain ⟨hw, hf⟩ := hI
            rw [law19_PackSizes.l1] at hp
            refine wp_seq ?_
            refine wp_seq ?_
            refine wp_region_lit ?_
            refine o_run hf (r_move hf rfl) rfl fun a hf => ?_
            refine o_run hf (r_move hf rfl) rfl fun a hf => ?_
            refine o_run hf (r_lenL (K := ek_Plan) hf el_29 rfl (hR200.rd hw)) rfl fun a hf => ?_
            refine o_run hf (r_icmp hf rfl rfl rfl) rfl fun a hf => ?_
            refine o_nil ?_
            refine c_then ?_
            refine c_cond hf rfl (fun hb489 => ?_) (fun hb489 => ?_)
            · replace hp := cond_t hb489 hp
              refine wp_skip ?_
              refine c_then ?_
              refine wp_seq ?_
              refine wp_block ?_
              refine wp_seq ?_
              refine wp_region_lit ?_
              refine o_run hf (r_move hf rfl) rfl fun a hf => ?_
              refine o_run hf (r_move hf rfl) rfl fun a hf => ?_
              refine o_run hf (r_move hf rfl) rfl fun a hf => ?_
              obtain ⟨hg490, hp⟩ := gd_some hp
              refine o_run hf (r_indexAddr (K := ek_Plan) hf el_29 rfl rfl (hR200.rd hw) hg490) rfl fun a hf => ?_
              obtain ⟨_, ⟨vv491, vv493, rfl, hR492, hR494⟩, hrun496⟩ := rs_loadHA (P := P) ty_26 hR200 hg490 rfl (fun cs h => Plan_all h)
              refine o_run hf (hrun496 _ _ _ _ _ _ _ _ _ _ _ _ hw hf rfl) rfl fun a hf => ?_
              obtain ⟨y500, hy499, hp⟩ := bind_some hp
              obtain ⟨y497, y498⟩ := y500
              have hc501 := pack_Bytes_ok hw hR188 hR492 hR494 hy499
              refine o_call hf cb_18 rfl rfl hc501 (fun v503 w a hK502 hf => ?_)
              obtain ⟨rfl, hw⟩ := hK502
              refine o_run hf (r_move hf rfl) rfl fun a hf => ?_
              refine o_run hf (r_extract hf rfl rfl) rfl fun a hf => ?_
              refine o_run hf (r_extract hf rfl rfl) rfl fun a hf => ?_
              refine o_run hf (r_assign hf rfl) rfl fun a hf => ?_
              refine o_run hf (r_assign hf rfl) rfl fun a hf => ?_
              refine o_nil ?_
              refine c_then ?_
              refine wp_seq ?_
              refine wp_seq ?_
              refine wp_region_lit ?_
              refine o_run hf (r_move hf rfl) rfl fun a hf => ?_
              refine o_run hf (r_not hf rfl) rfl fun a hf => ?_
              refine o_nil ?_
              refine c_then ?_
              refine c_cond hf rfl (fun hb504 => ?_) (fun hb504 => ?_)
              · replace hp := cond_t hb504 hp
                refine wp_seq ?_
                refine wp_region_lit ?_
                refine o_run hf (r_assign hf rfl) rfl fun a hf => ?_
                refine o_nil ?_
                refine c_then ?_
                refine wp_ret ?_
                refine c_thenR ?_
                refine c_blockR ?_
                refine c_thenR ?_
                refine c_thenR ?_
                refine c_blockR ?_
                refine c_thenR ?_
                have ho := out_inj hp
                subst ho
                replace hp := hq487
                refine c_thenR ?_
                have ho := out_inj hp
                subst ho
                exact b_ret1 hf Go.Proofs.Try.results7 rfl ⟨_, rfl, ⟨rfl, (hw.back (IH.le_trans hle192 hle202) (List.Sublist.refl _))⟩⟩
              · replace hp := cond_f hb504 hp
                refine wp_skip ?_
                refine c_then ?_
                refine wp_region_lit ?_
                refine o_run hf (r_move hf rfl) rfl fun a hf => ?_
                refine o_run hf (r_move hf rfl) rfl fun a hf => ?_
                refine o_run hf (r_add hf rfl rfl) rfl fun a hf => ?_
                refine o_run hf (r_assign hf rfl) rfl fun a hf => ?_
                refine o_nil ?_
                refine c_blockN ?_
                refine c_then ?_
                refine wp_region_lit ?_
                refine o_run hf (r_move hf rfl) rfl fun a hf => ?_
                refine o_run hf (r_add hf rfl rfl) rfl fun a hf => ?_
                refine o_run hf (r_assign hf rfl) rfl fun a hf => ?_
                refine o_nil ?_
                refine c_then ?_
                exact ih (w64 (y467 + 1), w64 (y468 + y497)) _ _ ⟨hw, hf.to ⟨rfl, rfl, rfl, rfl, rfl, trivial⟩⟩ hp
            · replace hp := cond_f hb489 hp
              refine wp_exit ?_
              refine c_thenE ?_
              refine c_thenE ?_
              refine c_exit ?_
              refine c_then ?_
              have ho := out_inj hp
              subst ho
              exact ⟨y468, rfl, hw, hf.to ⟨rfl, rfl, rfl, rfl, trivial⟩⟩
          · intro a w hM
            obtain ⟨y485, rfl, hw, hf⟩ := hM
            replace hp := hq487
            refine c_then ?_
            obtain ⟨out521, hp, hq522⟩ := bind_some hp
            refine c_cut (fun a w => ∃ y520 : Bool, y520 = out521 ∧ Ok E I2_198 (F) w ∧ Fr 90 ([(2, Value.bool y520)]) a) ?_ ?_
            · refine wp_region_lit ?_
              refine o_run hf (r_move hf rfl) rfl fun a hf => ?_
              refine o_run hf (r_move hf rfl) rfl fun a hf => ?_
              refine o_run hf (r_move hf rfl) rfl fun a hf => ?_
              refine o_run hf (r_lenL (K := ek_Node) hf el_23 rfl (hR188.rd hw)) rfl fun a hf => ?_
              refine o_run hf (r_move hf rfl) rfl fun a hf => ?_
              refine o_run hf (r_lenL (K := ek_Plan) hf el_29 rfl (hR200.rd hw)) rfl fun a hf => ?_
              refine o_run hf (r_sub hf rfl rfl) rfl fun a hf => ?_
              refine o_run hf (r_mul hf rfl rfl) rfl fun a hf => ?_
              refine o_run hf (r_add hf rfl rfl) rfl fun a hf => ?_
              refine o_run hf (r_icmp hf rfl rfl rfl) rfl fun a hf => ?_
              refine o_run hf (r_move hf rfl) rfl fun a hf => ?_
              refine g_split hf (g := 87) rfl (fun hb523 hf => ?_) (fun hb523 hf => ?_)
              · replace hp := cond_t hb523 hp
                refine o_want hf (g := 87) rfl rfl ?_
                obtain ⟨y524, hy525, hp⟩ := bind_some hp
                have hc527 := law19_wakes_ok hw hy525
                refine o_call hf cb_13 rfl rfl hc527 (fun v529 w a hK528 hf => ?_)
                obtain ⟨rfl, hw⟩ := hK528
                refine o_run hf (r_pickT hf rfl rfl) rfl fun a hf => ?_
                refine o_run hf (r_assign hf rfl) rfl fun a hf => ?_
                refine o_nil ?_
                refine c_then ?_
                have ho := out_inj hp
                subst ho
                exact ⟨y524, rfl, hw, hf.to ⟨rfl, trivial⟩⟩
              · replace hp := cond_f hb523 hp
                refine o_skip hf (g := 87) rfl rfl rfl rfl rfl rfl fun a hf => ?_
                refine o_run hf (r_pickF hf rfl rfl) rfl fun a hf => ?_
                refine o_run hf (r_assign hf rfl) rfl fun a hf => ?_
                refine o_nil ?_
                refine c_then ?_
                have ho := out_inj hp
                subst ho
                exact ⟨false, rfl, hw, hf.to ⟨rfl, trivial⟩⟩
            · intro a w hM
              obtain ⟨y520, rfl, hw, hf⟩ := hM
              replace hp := hq522
              refine wp_ret ?_
              have ho := out_inj hp
              subst ho
              exact b_ret1 hf Go.Proofs.Try.results7 rfl ⟨_, rfl, ⟨rfl, (hw.back (IH.le_trans hle192 hle202) (List.Sublist.refl _))⟩⟩
end Go.Lf
