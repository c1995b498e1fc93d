/- The Go functions compute the plain Lean functions (printed by our lift.py). -/
import Derived.Test.YtckhmgglgbnaaaaZD
import Derived.Test.YtckhmgglgbnaaaaZF
import Derived.Test.YtckhmgglgbnaaaaZK0
import Derived.Test.YtckhmgglgbnaaaaZK1
import Derived.Test.YtckhmgglgbnaaaaZK6
import Derived.Test.YtckhmgglgbnaaaaZK7
import Derived.Test.YtckhmgglgbnaaaaZK8
set_option linter.unusedVariables false
set_option linter.unusedSimpArgs false
namespace Go.Lf
open Go
set_option maxHeartbeats 1000000 in
set_option maxRecDepth 20000 in
theorem keep_Plans_ok {E : World} {I : IH} {F : List Atom} {w : World} {a0 : List Plan} {a0v223 : Value} {a1 : List Plan} {a1v225 : Value} {res0 : Bool} (hw : Ok E I (F) w) (hR224 : RS ek_Plan I a0v223 a0) (hR226 : RS ek_Plan I a1v225 a1) (hp : keep_Plans.f a0 a1 = some res0) :
    Calls P 20 ⟨[a0v223, a1v225]⟩ w fun e w' => ∃ v, e = .returned v ∧ v = Value.bool res0 ∧ Ok E I (F) w' := by
  refine c_enter Go.Proofs.Try.func20 rfl Go.Proofs.Try.ntmps20 rfl fun a hf => ?_
  replace hf : Fr 69 [(0, a0v223), (1, a1v225)] a := hf
  unfold keep_Plans.f at hp
  refine wp_seq ?_
  refine wp_region_lit ?_
  refine o_run hf (r_assign hf rfl) rfl fun a hf => ?_
  refine o_nil ?_
  refine c_then ?_
  refine wp_seq ?_
  refine wp_seq ?_
  refine wp_region_lit ?_
  refine o_run hf (r_move hf rfl) rfl fun a hf => ?_
  refine o_run hf (r_lenL (K := ek_Plan) hf el_29 rfl (hR224.rd hw)) rfl fun a hf => ?_
  refine o_run hf (r_move hf rfl) rfl fun a hf => ?_
  refine o_run hf (r_lenL (K := ek_Plan) hf el_29 rfl (hR226.rd hw)) rfl fun a hf => ?_
  refine o_run hf (r_icmp hf rfl rfl rfl) rfl fun a hf => ?_
  refine o_nil ?_
  refine c_then ?_
  refine c_cond hf rfl (fun hb1 => ?_) (fun hb1 => ?_)
  · replace hp := cond_t hb1 hp
    refine wp_seq ?_
    refine wp_region_lit ?_
    refine o_run hf (r_assign hf rfl) rfl fun a hf => ?_
    refine o_nil ?_
    refine c_then ?_
    refine wp_ret ?_
    refine c_thenR ?_
    have ho := out_inj hp
    subst ho
    exact b_ret1 hf Go.Proofs.Try.results20 rfl ⟨_, rfl, ⟨rfl, hw⟩⟩
  · replace hp := cond_f hb1 hp
    refine wp_skip ?_
    refine c_then ?_
    refine wp_seq ?_
    refine wp_seq ?_
    refine wp_region_lit ?_
    refine o_run hf (r_assign hf rfl) rfl fun a hf => ?_
    refine o_nil ?_
    refine c_then ?_
    obtain ⟨out679, hp, hq680⟩ := bind_some hp
    refine c_cutX (fun a w => (.inl ()) = out679 ∧ Ok E I (F) w ∧ Fr 69 ([]) a) ?_ ?_
    · refine wp_block ?_
      refine c_loop ?_
      refine c_fuel (keep_Plans.l0 a0 a1) out679 (fun (y453 : Int) a w => Ok E I (F) w ∧ Fr 69 ([(0, a0v223), (1, a1v225), (5, Value.int .i64 y453)]) a) (fun _ => rfl) ?_ BIG 0 _ _ ⟨hw, hf.to ⟨rfl, rfl, rfl, trivial⟩⟩ hp
      intro k y453 a w hI hp ih
      obtain ⟨hw, hf⟩ := hI
      rw [keep_Plans.l0] at hp
      refine wp_seq ?_
      refine wp_seq ?_
      refine wp_region_lit ?_
      refine o_run hf (r_move hf rfl) rfl fun a hf => ?_
      refine o_run hf (r_move hf rfl) rfl fun a hf => ?_
      refine o_run hf (r_lenL (K := ek_Plan) hf el_29 rfl (hR224.rd hw)) rfl fun a hf => ?_
      refine o_run hf (r_icmp hf rfl rfl rfl) rfl fun a hf => ?_
      refine o_nil ?_
      refine c_then ?_
      refine c_cond hf rfl (fun hb682 => ?_) (fun hb682 => ?_)
      · replace hp := cond_t hb682 hp
        refine wp_skip ?_
        refine c_then ?_
        refine wp_seq ?_
        refine wp_block ?_
        obtain ⟨out868, hp, hq869⟩ := bind_some hp
        refine c_cut (fun a w => ∃ y867 : Bool, y867 = out868 ∧ Ok E I (F) w ∧ Fr 69 ([(0, a0v223), (1, a1v225), (5, Value.int .i64 y453), (68, Value.bool y867)]) a) ?_ ?_
        · refine c_drawn mix [] (.rd 0 (.rd 1 (.rd 2 (.rd 3 (.rd 4 (.rd 5 (.rd 6 (.rd 7 (.rd 8 (.rd 9 (.rd 10 (.rd 11 (.rd 12 (.rd 13 (.rd 14 (.rd 15 (.rd 16 (.rd 17 (.rd 18 (.rd 19 (.rd 20 (.rd 21 (.rd 22 (.rd 23 (.rd 24 (.rd 25 (.rd 26 (.rd 27 (.rd 28 (.rd 29 (.rd 30 (.rd 31 (.rd 32 (.rd 33 (.rd 34 (.ef 35 (.rd 36 (.rd 37 (.rd 38 (.rd 39 (.rd 40 (.rd 41 (.rd 42 (.rd 43 (.rd 44 (.rd 45 (.rd 46 (.rd 47 (.rd 48 (.ef 49 (.rd 50 (.rd 51 .done)))))))))))))))))))))))))))))))))))))))))))))))))))) (by kernel_rfl) hw (fun w => Ok E I (F) w) (fun w hw => ⟨hw.sub (List.Sublist.refl _), ?_⟩)
          refine t_rd rfl hf (fun w hw => r_move hf rfl) rfl fun a hf => ?_
          refine t_rd rfl hf (fun w hw => r_move hf rfl) rfl fun a hf => ?_
          obtain ⟨hg871, hp⟩ := gd_some hp
          refine t_rd rfl hf (fun w hw => r_indexAddr (K := ek_Plan) hf el_29 rfl rfl (hR224.rd hw) hg871) rfl fun a hf => ?_
          refine t_rd rfl hf (fun w hw => r_fieldAddrH hf rfl fd_26_0) rfl fun a hf => ?_
          refine t_rd rfl hf (fun w hw => r_loadH (K := ek_Plan) hf rfl ty_9 (hR224.rd hw) hg871 rfl (fun cs h => Plan_f0 h)) rfl fun a hf => ?_
          refine t_rd rfl hf (fun w hw => r_move hf rfl) rfl fun a hf => ?_
          refine t_rd rfl hf (fun w hw => r_move hf rfl) rfl fun a hf => ?_
          obtain ⟨hg872, hp⟩ := gd_some hp
          refine t_rd rfl hf (fun w hw => r_indexAddr (K := ek_Plan) hf el_29 rfl rfl (hR226.rd hw) hg872) rfl fun a hf => ?_
          refine t_rd rfl hf (fun w hw => r_fieldAddrH hf rfl fd_26_0) rfl fun a hf => ?_
          refine t_rd rfl hf (fun w hw => r_loadH (K := ek_Plan) hf rfl ty_9 (hR226.rd hw) hg872 rfl (fun cs h => Plan_f0 h)) rfl fun a hf => ?_
          refine t_rd rfl hf (fun w hw => r_scmp hf rfl rfl rfl) rfl fun a hf => ?_
          refine t_rd rfl hf (fun w hw => r_move hf rfl) rfl fun a hf => ?_
          refine g_split hf (g := 28) rfl (fun hb873 hf => ?_) (fun hb873 hf => ?_)
          · replace hp := cond_t hb873 hp
            refine t_rdS rfl rfl hf rfl rfl rfl fun a hf => ?_
            refine t_rdS rfl rfl hf rfl rfl rfl fun a hf => ?_
            refine t_rdS rfl rfl hf rfl rfl rfl fun a hf => ?_
            refine t_rdS rfl rfl hf rfl rfl rfl fun a hf => ?_
            refine t_rdS rfl rfl hf rfl rfl rfl fun a hf => ?_
            refine t_rdS rfl rfl hf rfl rfl rfl fun a hf => ?_
            refine t_rdS rfl rfl hf rfl rfl rfl fun a hf => ?_
            refine t_rdS rfl rfl hf rfl rfl rfl fun a hf => ?_
            refine t_rdS rfl rfl hf rfl rfl rfl fun a hf => ?_
            refine t_rdS rfl rfl hf rfl rfl rfl fun a hf => ?_
            refine t_rdS rfl rfl hf rfl rfl rfl fun a hf => ?_
            refine t_rd rfl hf (fun w hw => r_pickT hf rfl rfl) rfl fun a hf => ?_
            refine t_rd rfl hf (fun w hw => r_move hf rfl) rfl fun a hf => ?_
            refine t_rdS rfl rfl hf rfl rfl rfl fun a hf => ?_
            refine t_rdS rfl rfl hf rfl rfl rfl fun a hf => ?_
            refine t_rdS rfl rfl hf rfl rfl rfl fun a hf => ?_
            refine t_rdS rfl rfl hf rfl rfl rfl fun a hf => ?_
            refine t_rdS rfl rfl hf rfl rfl rfl fun a hf => ?_
            refine t_rdS rfl rfl hf rfl rfl rfl fun a hf => ?_
            refine t_rdS rfl rfl hf rfl rfl rfl fun a hf => ?_
            refine t_rdS rfl rfl hf rfl rfl rfl fun a hf => ?_
            refine t_rdS rfl rfl hf rfl rfl rfl fun a hf => ?_
            refine t_rdS rfl rfl hf rfl rfl rfl fun a hf => ?_
            refine t_ef rfl ?_
            refine t_skipE rfl hf rfl rfl rfl fun a hf => ⟨.inr (hw.back (IH.le_refl _) (List.Sublist.refl _)), ?_⟩
            refine t_rdS rfl rfl hf rfl rfl rfl fun a hf => ?_
            refine t_rd rfl hf (fun w hw => r_pickT hf rfl rfl) rfl fun a hf => ?_
            refine t_rd rfl hf (fun w hw => r_move hf rfl) rfl fun a hf => ?_
            refine t_rdS rfl rfl hf rfl rfl rfl fun a hf => ?_
            refine t_rdS rfl rfl hf rfl rfl rfl fun a hf => ?_
            refine t_rdS rfl rfl hf rfl rfl rfl fun a hf => ?_
            refine t_rdS rfl rfl hf rfl rfl rfl fun a hf => ?_
            refine t_rdS rfl rfl hf rfl rfl rfl fun a hf => ?_
            refine t_rdS rfl rfl hf rfl rfl rfl fun a hf => ?_
            refine t_rdS rfl rfl hf rfl rfl rfl fun a hf => ?_
            refine t_rdS rfl rfl hf rfl rfl rfl fun a hf => ?_
            refine t_rdS rfl rfl hf rfl rfl rfl fun a hf => ?_
            refine t_rdS rfl rfl hf rfl rfl rfl fun a hf => ?_
            refine t_ef rfl ?_
            refine t_skipE rfl hf rfl rfl rfl fun a hf => ⟨.inr (hw.back (IH.le_refl _) (List.Sublist.refl _)), ?_⟩
            refine t_rdS rfl rfl hf rfl rfl rfl fun a hf => ?_
            refine t_rd rfl hf (fun w hw => r_pickT hf rfl rfl) rfl fun a hf => ?_
            refine t_done ?_
            refine c_then ?_
            have ho := out_inj hp
            subst ho
            exact ⟨true, rfl, hw, hf.to ⟨rfl, rfl, rfl, rfl, trivial⟩⟩
          · replace hp := cond_f hb873 hp
            refine t_rdG rfl rfl hf rfl (fun w hw => r_move hf rfl) rfl fun a hf => ?_
            refine t_rdG rfl rfl hf rfl (fun w hw => r_move hf rfl) rfl fun a hf => ?_
            obtain ⟨hg874, hp⟩ := gd_some hp
            refine t_rdG rfl rfl hf rfl (fun w hw => r_indexAddr (K := ek_Plan) hf el_29 rfl rfl (hR224.rd hw) hg874) rfl fun a hf => ?_
            refine t_rdG rfl rfl hf rfl (fun w hw => r_fieldAddrH hf rfl fd_26_1) rfl fun a hf => ?_
            refine t_rdG rfl rfl hf rfl (fun w hw => r_loadH (K := ek_Plan) hf rfl ty_3 (hR224.rd hw) hg874 rfl (fun cs h => Plan_f1 h)) rfl fun a hf => ?_
            refine t_rdG rfl rfl hf rfl (fun w hw => r_move hf rfl) rfl fun a hf => ?_
            refine t_rdG rfl rfl hf rfl (fun w hw => r_move hf rfl) rfl fun a hf => ?_
            obtain ⟨hg875, hp⟩ := gd_some hp
            refine t_rdG rfl rfl hf rfl (fun w hw => r_indexAddr (K := ek_Plan) hf el_29 rfl rfl (hR226.rd hw) hg875) rfl fun a hf => ?_
            refine t_rdG rfl rfl hf rfl (fun w hw => r_fieldAddrH hf rfl fd_26_1) rfl fun a hf => ?_
            refine t_rdG rfl rfl hf rfl (fun w hw => r_loadH (K := ek_Plan) hf rfl ty_3 (hR226.rd hw) hg875 rfl (fun cs h => Plan_f1 h)) rfl fun a hf => ?_
            refine t_rdG rfl rfl hf rfl (fun w hw => r_icmp hf rfl rfl rfl) rfl fun a hf => ?_
            refine t_rd rfl hf (fun w hw => r_pickF hf rfl rfl) rfl fun a hf => ?_
            refine t_rd rfl hf (fun w hw => r_move hf rfl) rfl fun a hf => ?_
            refine g_split hf (g := 41) rfl (fun hb876 hf => ?_) (fun hb876 hf => ?_)
            · replace hp := cond_t hb876 hp
              refine t_rdS rfl rfl hf rfl rfl rfl fun a hf => ?_
              refine t_rdS rfl rfl hf rfl rfl rfl fun a hf => ?_
              refine t_rdS rfl rfl hf rfl rfl rfl fun a hf => ?_
              refine t_rdS rfl rfl hf rfl rfl rfl fun a hf => ?_
              refine t_rdS rfl rfl hf rfl rfl rfl fun a hf => ?_
              refine t_rdS rfl rfl hf rfl rfl rfl fun a hf => ?_
              refine t_rdS rfl rfl hf rfl rfl rfl fun a hf => ?_
              refine t_rdS rfl rfl hf rfl rfl rfl fun a hf => ?_
              refine t_rdS rfl rfl hf rfl rfl rfl fun a hf => ?_
              refine t_rdS rfl rfl hf rfl rfl rfl fun a hf => ?_
              refine t_ef rfl ?_
              refine t_skipE rfl hf rfl rfl rfl fun a hf => ⟨.inr (hw.back (IH.le_refl _) (List.Sublist.refl _)), ?_⟩
              refine t_rdS rfl rfl hf rfl rfl rfl fun a hf => ?_
              refine t_rd rfl hf (fun w hw => r_pickT hf rfl rfl) rfl fun a hf => ?_
              refine t_rd rfl hf (fun w hw => r_move hf rfl) rfl fun a hf => ?_
              refine t_rdS rfl rfl hf rfl rfl rfl fun a hf => ?_
              refine t_rdS rfl rfl hf rfl rfl rfl fun a hf => ?_
              refine t_rdS rfl rfl hf rfl rfl rfl fun a hf => ?_
              refine t_rdS rfl rfl hf rfl rfl rfl fun a hf => ?_
              refine t_rdS rfl rfl hf rfl rfl rfl fun a hf => ?_
              refine t_rdS rfl rfl hf rfl rfl rfl fun a hf => ?_
              refine t_rdS rfl rfl hf rfl rfl rfl fun a hf => ?_
              refine t_rdS rfl rfl hf rfl rfl rfl fun a hf => ?_
              refine t_rdS rfl rfl hf rfl rfl rfl fun a hf => ?_
              refine t_rdS rfl rfl hf rfl rfl rfl fun a hf => ?_
              refine t_ef rfl ?_
              refine t_skipE rfl hf rfl rfl rfl fun a hf => ⟨.inr (hw.back (IH.le_refl _) (List.Sublist.refl _)), ?_⟩
              refine t_rdS rfl rfl hf rfl rfl rfl fun a hf => ?_
              refine t_rd rfl hf (fun w hw => r_pickT hf rfl rfl) rfl fun a hf => ?_
              refine t_done ?_
              refine c_then ?_
              have ho := out_inj hp
              subst ho
              exact ⟨true, rfl, hw, hf.to ⟨rfl, rfl, rfl, rfl, trivial⟩⟩
            · replace hp := cond_f hb876 hp
              refine t_rdG rfl rfl hf rfl (fun w hw => r_move hf rfl) rfl fun a hf => ?_
              refine t_rdG rfl rfl hf rfl (fun w hw => r_move hf rfl) rfl fun a hf => ?_
              obtain ⟨hg877, hp⟩ := gd_some hp
              refine t_rdG rfl rfl hf rfl (fun w hw => r_indexAddr (K := ek_Plan) hf el_29 rfl rfl (hR224.rd hw) hg877) rfl fun a hf => ?_
              refine t_rdG rfl rfl hf rfl (fun w hw => r_fieldAddrH hf rfl fd_26_2) rfl fun a hf => ?_
              obtain ⟨v878, hR879, hrun880⟩ := rs_loadHX (P := P) ty_24 hR224 hg877 rfl (fun cs h => Plan_f2 h)
              refine t_rdG rfl rfl hf rfl (fun w hw => hrun880 _ _ _ _ _ _ _ _ _ _ _ _ hw hf rfl) rfl fun a hf => ?_
              refine t_rdG rfl rfl hf rfl (fun w hw => r_move hf rfl) rfl fun a hf => ?_
              refine t_rdG rfl rfl hf rfl (fun w hw => r_move hf rfl) rfl fun a hf => ?_
              obtain ⟨hg881, hp⟩ := gd_some hp
              refine t_rdG rfl rfl hf rfl (fun w hw => r_indexAddr (K := ek_Plan) hf el_29 rfl rfl (hR226.rd hw) hg881) rfl fun a hf => ?_
              refine t_rdG rfl rfl hf rfl (fun w hw => r_fieldAddrH hf rfl fd_26_2) rfl fun a hf => ?_
              obtain ⟨v882, hR883, hrun884⟩ := rs_loadHX (P := P) ty_24 hR226 hg881 rfl (fun cs h => Plan_f2 h)
              refine t_rdG rfl rfl hf rfl (fun w hw => hrun884 _ _ _ _ _ _ _ _ _ _ _ _ hw hf rfl) rfl fun a hf => ?_
              refine t_ef rfl ?_
              obtain ⟨y885, hy886, hp⟩ := bind_some hp
              have hc888 := keep_Ints_ok hw hR879 hR883 hy886
              refine t_callG rfl hf rfl cb_34 rfl rfl hc888 (fun v890 w a hK889 hf => ?_)
              obtain ⟨rfl, hw⟩ := hK889
              refine ⟨.inr (hw.back (IH.le_refl _) (List.Sublist.refl _)), ?_⟩
              refine t_rdG rfl rfl hf rfl (fun w hw => r_not hf rfl) rfl fun a hf => ?_
              refine t_rd rfl hf (fun w hw => r_pickF hf rfl rfl) rfl fun a hf => ?_
              refine t_rd rfl hf (fun w hw => r_move hf rfl) rfl fun a hf => ?_
              refine g_split hf (g := 55) rfl (fun hb891 hf => ?_) (fun hb891 hf => ?_)
              · replace hp := cond_t hb891 hp
                refine t_rdS rfl rfl hf rfl rfl rfl fun a hf => ?_
                refine t_rdS rfl rfl hf rfl rfl rfl fun a hf => ?_
                refine t_rdS rfl rfl hf rfl rfl rfl fun a hf => ?_
                refine t_rdS rfl rfl hf rfl rfl rfl fun a hf => ?_
                refine t_rdS rfl rfl hf rfl rfl rfl fun a hf => ?_
                refine t_rdS rfl rfl hf rfl rfl rfl fun a hf => ?_
                refine t_rdS rfl rfl hf rfl rfl rfl fun a hf => ?_
                refine t_rdS rfl rfl hf rfl rfl rfl fun a hf => ?_
                refine t_rdS rfl rfl hf rfl rfl rfl fun a hf => ?_
                refine t_rdS rfl rfl hf rfl rfl rfl fun a hf => ?_
                refine t_ef rfl ?_
                refine t_skipE rfl hf rfl rfl rfl fun a hf => ⟨.inr (hw.back (IH.le_refl _) (List.Sublist.refl _)), ?_⟩
                refine t_rdS rfl rfl hf rfl rfl rfl fun a hf => ?_
                refine t_rd rfl hf (fun w hw => r_pickT hf rfl rfl) rfl fun a hf => ?_
                refine t_done ?_
                refine c_then ?_
                have ho := out_inj hp
                subst ho
                exact ⟨true, rfl, hw, hf.to ⟨rfl, rfl, rfl, rfl, trivial⟩⟩
              · replace hp := cond_f hb891 hp
                refine t_rdG rfl rfl hf rfl (fun w hw => r_move hf rfl) rfl fun a hf => ?_
                refine t_rdG rfl rfl hf rfl (fun w hw => r_move hf rfl) rfl fun a hf => ?_
                obtain ⟨hg892, hp⟩ := gd_some hp
                refine t_rdG rfl rfl hf rfl (fun w hw => r_indexAddr (K := ek_Plan) hf el_29 rfl rfl (hR224.rd hw) hg892) rfl fun a hf => ?_
                refine t_rdG rfl rfl hf rfl (fun w hw => r_fieldAddrH hf rfl fd_26_3) rfl fun a hf => ?_
                obtain ⟨v893, hR894, hrun895⟩ := rs_loadHX (P := P) ty_24 hR224 hg892 rfl (fun cs h => Plan_f3 h)
                refine t_rdG rfl rfl hf rfl (fun w hw => hrun895 _ _ _ _ _ _ _ _ _ _ _ _ hw hf rfl) rfl fun a hf => ?_
                refine t_rdG rfl rfl hf rfl (fun w hw => r_move hf rfl) rfl fun a hf => ?_
                refine t_rdG rfl rfl hf rfl (fun w hw => r_move hf rfl) rfl fun a hf => ?_
                obtain ⟨hg896, hp⟩ := gd_some hp
                refine t_rdG rfl rfl hf rfl (fun w hw => r_indexAddr (K := ek_Plan) hf el_29 rfl rfl (hR226.rd hw) hg896) rfl fun a hf => ?_
                refine t_rdG rfl rfl hf rfl (fun w hw => r_fieldAddrH hf rfl fd_26_3) rfl fun a hf => ?_
                obtain ⟨v897, hR898, hrun899⟩ := rs_loadHX (P := P) ty_24 hR226 hg896 rfl (fun cs h => Plan_f3 h)
                refine t_rdG rfl rfl hf rfl (fun w hw => hrun899 _ _ _ _ _ _ _ _ _ _ _ _ hw hf rfl) rfl fun a hf => ?_
                refine t_ef rfl ?_
                obtain ⟨y900, hy901, hp⟩ := bind_some hp
                have hc903 := keep_Ints_ok hw hR894 hR898 hy901
                refine t_callG rfl hf rfl cb_34 rfl rfl hc903 (fun v905 w a hK904 hf => ?_)
                obtain ⟨rfl, hw⟩ := hK904
                refine ⟨.inr (hw.back (IH.le_refl _) (List.Sublist.refl _)), ?_⟩
                refine t_rdG rfl rfl hf rfl (fun w hw => r_not hf rfl) rfl fun a hf => ?_
                refine t_rd rfl hf (fun w hw => r_pickF hf rfl rfl) rfl fun a hf => ?_
                refine t_done ?_
                refine c_then ?_
                have ho := out_inj hp
                subst ho
                exact ⟨(!y900), rfl, hw, hf.to ⟨rfl, rfl, rfl, rfl, trivial⟩⟩
        · intro a w hM
          obtain ⟨y867, rfl, hw, hf⟩ := hM
          replace hp := hq869
          refine c_cond hf rfl (fun hb906 => ?_) (fun hb906 => ?_)
          · replace hp := cond_t hb906 hp
            refine wp_seq ?_
            refine wp_region_lit ?_
            refine o_run hf (r_assign hf rfl) rfl fun a hf => ?_
            refine o_nil ?_
            refine c_then ?_
            refine wp_ret ?_
            refine c_blockR ?_
            refine c_thenR ?_
            refine c_thenR ?_
            refine c_blockR ?_
            refine c_thenR ?_
            have ho := out_inj hp
            subst ho
            replace hp := hq680
            refine c_thenR ?_
            have ho := out_inj hp
            subst ho
            exact b_ret1 hf Go.Proofs.Try.results20 rfl ⟨_, rfl, ⟨rfl, hw⟩⟩
          · replace hp := cond_f hb906 hp
            refine wp_skip ?_
            refine c_blockN ?_
            refine c_then ?_
            refine wp_region_lit ?_
            refine o_run hf (r_move hf rfl) rfl fun a hf => ?_
            refine o_run hf (r_add hf rfl rfl) rfl fun a hf => ?_
            refine o_run hf (r_assign hf rfl) rfl fun a hf => ?_
            refine o_nil ?_
            refine c_then ?_
            exact ih (w64 (y453 + 1)) _ _ ⟨hw, hf.to ⟨rfl, rfl, rfl, trivial⟩⟩ hp
      · replace hp := cond_f hb682 hp
        refine wp_exit ?_
        refine c_thenE ?_
        refine c_thenE ?_
        refine c_exit ?_
        refine c_then ?_
        have ho := out_inj hp
        subst ho
        exact ⟨rfl, hw, hf.to trivial⟩
    · intro a w hM
      obtain ⟨rfl, hw, hf⟩ := hM
      replace hp := hq680
      refine c_then ?_
      refine wp_seq ?_
      refine wp_region_lit ?_
      refine o_run hf (r_assign hf rfl) rfl fun a hf => ?_
      refine o_nil ?_
      refine c_then ?_
      refine wp_ret ?_
      have ho := out_inj hp
      subst ho
      exact b_ret1 hf Go.Proofs.Try.results20 rfl ⟨_, rfl, ⟨rfl, hw⟩⟩

set_option maxHeartbeats 1000000 in
set_option maxRecDepth 20000 in
theorem law19_PackNear_ok {E : World} {I : IH} {F : List Atom} {w : World} {a0 : List Pair} {a0v18373 : Value} {a1 : Int} {a2 : Int} {res0 : Bool} (hw : Ok E I (F) w) (hR18374 : RS ek_Pair I a0v18373 a0) (hp : law19_PackNear.f a0 a1 a2 = some res0) :
    Calls P 6 ⟨[a0v18373, Value.int .u8 a1, Value.int .u8 a2]⟩ w fun e w' => ∃ v, e = .returned v ∧ v = Value.bool res0 ∧ Ok E I (F) w' := by
  refine c_enter Go.Proofs.Try.func6 rfl Go.Proofs.Try.ntmps6 rfl fun a hf => ?_
  replace hf : Fr 87 [(0, a0v18373), (1, Value.int .u8 a1), (2, Value.int .u8 a2)] a := hf
  unfold law19_PackNear.f at hp
  refine wp_seq ?_
  refine wp_region_lit ?_
  refine o_run hf (r_assign hf rfl) rfl fun a hf => ?_
  refine o_nil ?_
  refine c_then ?_
  refine wp_seq ?_
  obtain ⟨out82, hp, hq83⟩ := bind_some hp
  refine c_cut (fun a w => ∃ y81 : Bool, y81 = out82 ∧ Ok E I (F) w ∧ Fr 87 ([(0, a0v18373), (1, Value.int .u8 a1), (2, Value.int .u8 a2), (26, Value.bool y81)]) a) ?_ ?_
  · refine wp_region_lit ?_
    refine o_run hf (r_move hf rfl) rfl fun a hf => ?_
    obtain ⟨y84, hy85, hp⟩ := bind_some hp
    have hc87 := keep_LongPairs_ok hw hR18374 hy85
    refine o_call hf cb_22 rfl rfl hc87 (fun v89 w a hK88 hf => ?_)
    obtain ⟨rfl, hw⟩ := hK88
    refine o_run hf (r_move hf rfl) rfl fun a hf => ?_
    refine g_split hf (g := 17) rfl (fun hb90 hf => ?_) (fun hb90 hf => ?_)
    · replace hp := cond_t hb90 hp
      refine o_skip hf (g := 17) rfl rfl rfl rfl rfl rfl fun a hf => ?_
      refine o_skip hf (g := 17) rfl rfl rfl rfl rfl rfl fun a hf => ?_
      refine o_skip hf (g := 17) rfl rfl rfl rfl rfl rfl fun a hf => ?_
      refine o_run hf (r_pickT hf rfl rfl) rfl fun a hf => ?_
      refine o_run hf (r_move hf rfl) rfl fun a hf => ?_
      refine o_skip hf (g := 22) rfl rfl rfl rfl rfl rfl fun a hf => ?_
      refine o_skip hf (g := 22) rfl rfl rfl rfl rfl rfl fun a hf => ?_
      refine o_skip hf (g := 22) rfl rfl rfl rfl rfl rfl fun a hf => ?_
      refine o_run hf (r_pickT hf rfl rfl) rfl fun a hf => ?_
      refine o_nil ?_
      refine c_then ?_
      have ho := out_inj hp
      subst ho
      exact ⟨true, rfl, hw, hf.to ⟨rfl, rfl, rfl, rfl, trivial⟩⟩
    · replace hp := cond_f hb90 hp
      refine o_want hf (g := 17) rfl rfl ?_
      refine o_run hf (r_move hf rfl) rfl fun a hf => ?_
      refine o_want hf (g := 17) rfl rfl ?_
      obtain ⟨y91, hy92, hp⟩ := bind_some hp
      have hc94 := ref10_May_ok hw hR18374 hy92
      refine o_call hf cb_23 rfl rfl hc94 (fun v96 w a hK95 hf => ?_)
      obtain ⟨rfl, hw⟩ := hK95
      refine o_want hf (g := 17) rfl rfl ?_
      refine o_run hf (r_not hf rfl) rfl fun a hf => ?_
      refine o_run hf (r_pickF hf rfl rfl) rfl fun a hf => ?_
      refine o_run hf (r_move hf rfl) rfl fun a hf => ?_
      refine g_split hf (g := 22) rfl (fun hb97 hf => ?_) (fun hb97 hf => ?_)
      · replace hp := cond_t hb97 hp
        refine o_skip hf (g := 22) rfl rfl rfl rfl rfl rfl fun a hf => ?_
        refine o_skip hf (g := 22) rfl rfl rfl rfl rfl rfl fun a hf => ?_
        refine o_skip hf (g := 22) rfl rfl rfl rfl rfl rfl fun a hf => ?_
        refine o_run hf (r_pickT hf rfl rfl) rfl fun a hf => ?_
        refine o_nil ?_
        refine c_then ?_
        have ho := out_inj hp
        subst ho
        exact ⟨true, rfl, hw, hf.to ⟨rfl, rfl, rfl, rfl, trivial⟩⟩
      · replace hp := cond_f hb97 hp
        refine o_want hf (g := 22) rfl rfl ?_
        refine o_run hf (r_move hf rfl) rfl fun a hf => ?_
        refine o_want hf (g := 22) rfl rfl ?_
        refine o_run hf (r_lenL (K := ek_Pair) hf el_43 rfl (hR18374.rd hw)) rfl fun a hf => ?_
        refine o_want hf (g := 22) rfl rfl ?_
        refine o_run hf (r_icmp hf rfl rfl rfl) rfl fun a hf => ?_
        refine o_run hf (r_pickF hf rfl rfl) rfl fun a hf => ?_
        refine o_nil ?_
        refine c_then ?_
        have ho := out_inj hp
        subst ho
        exact ⟨((a0.length : Int) == 0), rfl, hw, hf.to ⟨rfl, rfl, rfl, rfl, trivial⟩⟩
  · intro a w hM
    obtain ⟨y81, rfl, hw, hf⟩ := hM
    replace hp := hq83
    refine c_cond hf rfl (fun hb98 => ?_) (fun hb98 => ?_)
    · replace hp := cond_t hb98 hp
      refine wp_seq ?_
      refine wp_region_lit ?_
      obtain ⟨y99, hy100, hp⟩ := bind_some hp
      have hc102 := law19_wakes_ok hw hy100
      refine o_call hf cb_13 rfl rfl hc102 (fun v104 w a hK103 hf => ?_)
      obtain ⟨rfl, hw⟩ := hK103
      refine o_run hf (r_assign hf rfl) rfl fun a hf => ?_
      refine o_nil ?_
      refine c_then ?_
      refine wp_ret ?_
      refine c_thenR ?_
      have ho := out_inj hp
      subst ho
      exact b_ret1 hf Go.Proofs.Try.results6 rfl ⟨_, rfl, ⟨rfl, hw⟩⟩
    · replace hp := cond_f hb98 hp
      refine wp_skip ?_
      refine c_then ?_
      refine wp_seq ?_
      refine wp_region_lit ?_
      obtain ⟨w, v105, hrun106, hw, hRR107⟩ := e_buildSlice (P := P) (K := ek_Pair) (m := 0) hw hf (parts := []) el_43 ty_55 rfl rfl rfl (ccs := []) rfl (xs := ([] : List Pair)) trivial rfl
      obtain ⟨cs108, hcs⟩ : ∃ cs, cs = ([] : List (List Value)).flatten := ⟨_, rfl⟩
      rw [← hcs] at hw hRR107; clear hcs
      refine o_eff hf (hrun106 ..) rfl fun a hf => ?_
      refine o_run hf (r_move hf rfl) rfl fun a hf => ?_
      obtain ⟨hg110, hp⟩ := gd_some hp
      obtain ⟨w, v111, m112, cs113, hrun115, hw, hRR114⟩ := e_append (P := P) (K := ek_Pair) (ty := 43) hw hf (s := .tmp 28) (x := .tmp 29) el_43 ty_55 rfl (by decide) 0 rfl rfl rfl hRR107 (ys := a0) (hR18374.rd hw) hg110
      replace hw : Ok E I (.row v111 55 2 m112 cs113 :: F) w := hw
      refine o_eff hf (hrun115 ..) rfl fun a hf => ?_
      refine o_run hf (r_assign hf rfl) rfl fun a hf => ?_
      refine o_nil ?_
      refine c_then ?_
      refine wp_seq ?_
      refine wp_region_lit ?_
      refine o_run hf (r_move hf rfl) rfl fun a hf => ?_
      refine o_run hf (r_convI hf und_5 und_3 rfl) rfl fun a hf => ?_
      refine o_run hf (r_move hf rfl) rfl fun a hf => ?_
      refine o_run hf (r_lenL (K := ek_Pair) hf el_43 rfl (row_rd (K := ek_Pair) hw (i := 0) rfl hRR114)) rfl fun a hf => ?_
      obtain ⟨hg116, hp⟩ := gd_some hp
      refine o_run hf (r_rem hf rfl rfl hg116) rfl fun a hf => ?_
      refine o_run hf (r_assign hf rfl) rfl fun a hf => ?_
      refine o_nil ?_
      refine c_then ?_
      refine wp_seq ?_
      refine wp_region_lit ?_
      refine o_run hf (r_move hf rfl) rfl fun a hf => ?_
      refine o_run hf (r_move hf rfl) rfl fun a hf => ?_
      obtain ⟨hg117, hp⟩ := gd_some hp
      refine o_run hf (r_indexAddr (K := ek_Pair) hf el_43 rfl rfl (row_rd (K := ek_Pair) hw (i := 0) rfl hRR114) hg117) rfl fun a hf => ?_
      refine o_run hf (r_fieldAddrH hf rfl fd_55_1) rfl fun a hf => ?_
      refine o_run hf (r_loadH (K := ek_Pair) hf rfl ty_9 (row_rd (K := ek_Pair) hw (i := 0) rfl hRR114) hg117 rfl (fun cs h => Pair_f1 h)) rfl fun a hf => ?_
      obtain ⟨hg118, hp⟩ := gd_some hp
      obtain ⟨w, v119, sA122, hrun120, hw, hRR121⟩ := e_convSB (P := P) hw hf (x := .tmp 40) und_9 und_53 und_5 rfl hg118
      refine o_eff hf (hrun120 ..) rfl fun a hf => ?_
      refine o_run hf (r_assign hf rfl) rfl fun a hf => ?_
      refine o_nil ?_
      refine c_then ?_
      refine wp_seq ?_
      refine wp_seq ?_
      refine wp_region_lit ?_
      refine o_run hf (r_assign hf rfl) rfl fun a hf => ?_
      refine o_nil ?_
      refine c_then ?_
      obtain ⟨out162, hp, hq163⟩ := bind_some hp
      refine c_cutX (fun a w => ∃ y156 : List Int, ∃ yv157 : Value, ∃ sA161 : Atom, y156 = out162 ∧ Ok E I (sA161 :: .row v111 55 2 m112 cs113 :: F) w ∧ Fr 87 ([(0, a0v18373), (7, v111), (8, Value.int .i64 ((w64 a1).tmod ((([] : List Pair) ++ a0).length : Int))), (9, yv157)]) a ∧ SB sA161 yv157 5 y156) ?_ ?_
      · refine wp_block ?_
        refine c_loop ?_
        refine c_fuel (law19_PackNear.l0 a2) out162 (fun (y143, y149) a w => ∃ yv144 : Value, ∃ sA148 : Atom, Ok E I (sA148 :: .row v111 55 2 m112 cs113 :: F) w ∧ Fr 87 ([(0, a0v18373), (2, Value.int .u8 a2), (7, v111), (8, Value.int .i64 ((w64 a1).tmod ((([] : List Pair) ++ a0).length : Int))), (9, yv144), (10, Value.int .i64 y149)]) a ∧ SB sA148 yv144 5 y143) (fun _ => rfl) ?_ BIG (nums ((gt (([] : List Pair) ++ a0) ((w64 a1).tmod ((([] : List Pair) ++ a0).length : Int))).value_), 0) _ _ ⟨v119, sA122, hw, hf.to ⟨rfl, rfl, rfl, rfl, rfl, rfl, trivial⟩, hRR121⟩ hp
        intro k st a w hI hp ih
        obtain ⟨y143, y149⟩ := st
        obtain ⟨yv144, sA148, hw, hf, hRR147⟩ := hI
        rw [law19_PackNear.l0] at hp
        refine wp_seq ?_
        refine wp_seq ?_
        refine wp_region_lit ?_
        refine o_run hf (r_move hf rfl) rfl fun a hf => ?_
        refine o_run hf (r_move hf rfl) rfl fun a hf => ?_
        refine o_run hf (r_lenL (K := (ekI .u8)) hf el_53 rfl (sb_rd hw (i := 0) rfl hRR147)) rfl fun a hf => ?_
        refine o_run hf (r_icmp hf rfl rfl rfl) rfl fun a hf => ?_
        refine o_nil ?_
        refine c_then ?_
        refine c_cond hf rfl (fun hb165 => ?_) (fun hb165 => ?_)
        · replace hp := cond_t hb165 hp
          refine wp_skip ?_
          refine c_then ?_
          refine wp_seq ?_
          refine wp_block ?_
          refine wp_region_lit ?_
          refine o_run hf (r_move hf rfl) rfl fun a hf => ?_
          refine o_run hf (r_move hf rfl) rfl fun a hf => ?_
          obtain ⟨hg166, hp⟩ := gd_some hp
          refine o_run hf (r_indexAddr (K := (ekI .u8)) hf el_53 rfl rfl (sb_rd hw (i := 0) rfl hRR147) hg166) rfl fun a hf => ?_
          refine o_run hf (r_loadH (K := (ekI .u8)) hf rfl ty_5 (sb_rd hw (i := 0) rfl hRR147) hg166 rfl (fun cs h => ekI_f0 h)) rfl fun a hf => ?_
          refine o_run hf (r_move hf rfl) rfl fun a hf => ?_
          refine o_run hf (r_xor hf rfl rfl) rfl fun a hf => ?_
          obtain ⟨hg167, hp⟩ := gd_some hp
          refine o_run hf (r_indexAddr (K := (ekI .u8)) hf el_53 rfl rfl (sb_rd hw (i := 0) rfl hRR147) hg167) rfl fun a hf => ?_
          obtain ⟨w, sA169, hrun168, hw, hRR170⟩ := e_storeS (P := P) hw hf (x := .tmp 54) (y := .tmp 53) rfl rfl ty_5 0 rfl hRR147 hg167 rfl
          replace hw : Ok E I (sA169 :: .row v111 55 2 m112 cs113 :: F) w := hw
          refine o_effU (hrun168 ..) ?_
          refine o_nil ?_
          refine c_blockN ?_
          refine c_then ?_
          refine wp_region_lit ?_
          refine o_run hf (r_move hf rfl) rfl fun a hf => ?_
          refine o_run hf (r_add hf rfl rfl) rfl fun a hf => ?_
          refine o_run hf (r_assign hf rfl) rfl fun a hf => ?_
          refine o_nil ?_
          refine c_then ?_
          exact ih (y143.set y149.toNat (bxor .u8 (gt y143 y149) a2), w64 (y149 + 1)) _ _ ⟨yv144, sA169, hw, hf.to ⟨rfl, rfl, rfl, rfl, rfl, rfl, trivial⟩, hRR170⟩ hp
        · replace hp := cond_f hb165 hp
          refine wp_exit ?_
          refine c_thenE ?_
          refine c_thenE ?_
          refine c_exit ?_
          refine c_then ?_
          have ho := out_inj hp
          subst ho
          exact ⟨y143, yv144, sA148, rfl, hw, hf.to ⟨rfl, rfl, rfl, rfl, trivial⟩, hRR147⟩
      · intro a w hM
        obtain ⟨y156, yv157, sA161, rfl, hw, hf, hRR160⟩ := hM
        replace hp := hq163
        refine c_then ?_
        refine wp_seq ?_
        refine wp_region_lit ?_
        refine o_run hf (r_move hf rfl) rfl fun a hf => ?_
        refine o_run hf (r_move hf rfl) rfl fun a hf => ?_
        refine o_run hf (r_move hf rfl) rfl fun a hf => ?_
        refine o_run hf (r_convB hf und_53 und_5 und_9 rfl (sb_rd hw (i := 0) rfl hRR160)) rfl fun a hf => ?_
        obtain ⟨hg172, hp⟩ := gd_some hp
        refine o_run hf (r_indexAddr (K := ek_Pair) hf el_43 rfl rfl (row_rd (K := ek_Pair) hw (i := 1) rfl hRR114) hg172) rfl fun a hf => ?_
        refine o_run hf (r_fieldAddrH hf rfl fd_55_1) rfl fun a hf => ?_
        obtain ⟨w, cs174, hrun173, hw, hRR175⟩ := e_storeH (P := P) (K := ek_Pair) hw hf (x := .tmp 60) (y := .tmp 58) rfl rfl ty_9 1 rfl hRR114 hg172 rfl (vs := [Value.string (strOfNums y156)]) (one_cells rfl) rfl (ones_cons rfl ones_nil) (by decide) (x' := { gt (([] : List Pair) ++ a0) ((w64 a1).tmod ((([] : List Pair) ++ a0).length : Int)) with value_ := strOfNums y156 }) (fun c h => Pair_set1 h)
        replace hw : Ok E I (sA161 :: .row v111 55 2 m112 cs174 :: F) w := hw
        refine o_effU (hrun173 ..) ?_
        refine o_nil ?_
        refine c_then ?_
        refine wp_seq ?_
        refine wp_region_lit ?_
        refine o_run hf (r_move hf rfl) rfl fun a hf => ?_
        obtain ⟨y176, hy177, hp⟩ := bind_some hp
        have hc179 := ref10_Build_ok hw hR18374 hy177
        refine o_call hf cb_24 rfl rfl hc179 (fun v185 w a hK180 hf => ?_)
        obtain ⟨I2_180, rvv181, rvv183, rfl, hle186, hw, hR182, hR184⟩ := hK180
        replace hR18374 := hR18374.mono hle186
        replace hRR160 := hRR160.mono hle186
        replace hRR175 := hRR175.mono hle186
        refine o_run hf (r_field hf rfl fd_47_0 ty_23 rfl) rfl fun a hf => ?_
        obtain ⟨y190, hy189, hp⟩ := bind_some hp
        obtain ⟨y187, y188⟩ := y190
        have hc191 := pack_Of_ok hw hR182 hy189
        refine o_call hf cb_14 rfl rfl hc191 (fun v195 w a hK192 hf => ?_)
        obtain ⟨I2_192, rvv193, rfl, hle196, hw, hR194⟩ := hK192
        replace hR18374 := hR18374.mono hle196
        replace hR182 := hR182.mono hle196
        replace hR184 := hR184.mono hle196
        replace hRR160 := hRR160.mono hle196
        replace hRR175 := hRR175.mono hle196
        refine o_run hf (r_move hf rfl) rfl fun a hf => ?_
        refine o_run hf (r_extract hf rfl rfl) rfl fun a hf => ?_
        refine o_run hf (r_extract hf rfl rfl) rfl fun a hf => ?_
        refine o_run hf (r_assign hf rfl) rfl fun a hf => ?_
        refine o_run hf (r_assign hf rfl) rfl fun a hf => ?_
        refine o_nil ?_
        refine c_then ?_
        refine wp_seq ?_
        refine wp_region_lit ?_
        refine o_run hf (r_move hf rfl) rfl fun a hf => ?_
        have hw : Ok E I2_192 (.row v111 55 2 m112 cs174 :: sA161 :: F) w := hw.front (i := 1) rfl
        obtain ⟨I197, hle198, hw, hR199⟩ := row_freeze (K := ek_Pair) hw hRR175
        replace hR18374 := hR18374.mono hle198
        replace hR182 := hR182.mono hle198
        replace hR184 := hR184.mono hle198
        replace hR194 := hR194.mono hle198
        replace hRR160 := hRR160.mono hle198
        obtain ⟨y200, hy201, hp⟩ := bind_some hp
        have hc203 := ref10_Build_ok hw hR199 hy201
        refine o_call hf cb_24 rfl rfl hc203 (fun v209 w a hK204 hf => ?_)
        obtain ⟨I2_204, rvv205, rvv207, rfl, hle210, hw, hR206, hR208⟩ := hK204
        replace hR18374 := hR18374.mono hle210
        replace hR199 := hR199.mono hle210
        replace hR182 := hR182.mono hle210
        replace hR184 := hR184.mono hle210
        replace hR194 := hR194.mono hle210
        replace hRR160 := hRR160.mono hle210
        refine o_run hf (r_field hf rfl fd_47_0 ty_23 rfl) rfl fun a hf => ?_
        obtain ⟨y214, hy213, hp⟩ := bind_some hp
        obtain ⟨y211, y212⟩ := y214
        have hc215 := pack_Of_ok hw hR206 hy213
        refine o_call hf cb_14 rfl rfl hc215 (fun v219 w a hK216 hf => ?_)
        obtain ⟨I2_216, rvv217, rfl, hle220, hw, hR218⟩ := hK216
        replace hR18374 := hR18374.mono hle220
        replace hR199 := hR199.mono hle220
        replace hR182 := hR182.mono hle220
        replace hR184 := hR184.mono hle220
        replace hR194 := hR194.mono hle220
        replace hR206 := hR206.mono hle220
        replace hR208 := hR208.mono hle220
        replace hRR160 := hRR160.mono hle220
        refine o_run hf (r_move hf rfl) rfl fun a hf => ?_
        refine o_run hf (r_extract hf rfl rfl) rfl fun a hf => ?_
        refine o_run hf (r_extract hf rfl rfl) rfl fun a hf => ?_
        refine o_run hf (r_assign hf rfl) rfl fun a hf => ?_
        refine o_run hf (r_assign hf rfl) rfl fun a hf => ?_
        refine o_nil ?_
        refine c_then ?_
        obtain ⟨out938, hp, hq939⟩ := bind_some hp
        refine c_cut (fun a w => ∃ y937 : Bool, y937 = out938 ∧ Ok E I2_216 (sA161 :: F) w ∧ Fr 87 ([(6, Value.bool y937)]) a) ?_ ?_
        · refine wp_region_lit ?_
          refine o_run hf (r_move hf rfl) rfl fun a hf => ?_
          refine o_run hf (r_move hf rfl) rfl fun a hf => ?_
          refine g_split hf (g := 76) rfl (fun hb940 hf => ?_) (fun hb940 hf => ?_)
          · replace hp := cond_t hb940 hp
            refine o_want hf (g := 76) rfl rfl ?_
            refine o_run hf (r_move hf rfl) rfl fun a hf => ?_
            refine o_run hf (r_pickT hf rfl rfl) rfl fun a hf => ?_
            refine o_run hf (r_move hf rfl) rfl fun a hf => ?_
            refine g_split hf (g := 79) rfl (fun hb941 hf => ?_) (fun hb941 hf => ?_)
            · replace hp := cond_t hb941 hp
              refine o_want hf (g := 79) rfl rfl ?_
              refine o_run hf (r_move hf rfl) rfl fun a hf => ?_
              refine o_want hf (g := 79) rfl rfl ?_
              refine o_run hf (r_move hf rfl) rfl fun a hf => ?_
              refine o_want hf (g := 79) rfl rfl ?_
              obtain ⟨y942, hy943, hp⟩ := bind_some hp
              have hc945 := keep_Plans_ok hw hR194 hR218 hy943
              refine o_call hf cb_20 rfl rfl hc945 (fun v947 w a hK946 hf => ?_)
              obtain ⟨rfl, hw⟩ := hK946
              refine o_run hf (r_pickT hf rfl rfl) rfl fun a hf => ?_
              refine o_run hf (r_move hf rfl) rfl fun a hf => ?_
              refine g_split hf (g := 84) rfl (fun hb948 hf => ?_) (fun hb948 hf => ?_)
              · replace hp := cond_t hb948 hp
                refine o_want hf (g := 84) rfl rfl ?_
                obtain ⟨y949, hy950, hp⟩ := bind_some hp
                have hc952 := law19_wakes_ok hw hy950
                refine o_call hf cb_13 rfl rfl hc952 (fun v954 w a hK953 hf => ?_)
                obtain ⟨rfl, hw⟩ := hK953
                refine o_run hf (r_pickT hf rfl rfl) rfl fun a hf => ?_
                refine o_run hf (r_assign hf rfl) rfl fun a hf => ?_
                refine o_nil ?_
                refine c_then ?_
                have ho := out_inj hp
                subst ho
                exact ⟨y949, rfl, hw, hf.to ⟨rfl, trivial⟩⟩
              · replace hp := cond_f hb948 hp
                refine o_skip hf (g := 84) rfl rfl rfl rfl rfl rfl fun a hf => ?_
                refine o_run hf (r_pickF hf rfl rfl) rfl fun a hf => ?_
                refine o_run hf (r_assign hf rfl) rfl fun a hf => ?_
                refine o_nil ?_
                refine c_then ?_
                have ho := out_inj hp
                subst ho
                exact ⟨false, rfl, hw, hf.to ⟨rfl, trivial⟩⟩
            · replace hp := cond_f hb941 hp
              refine o_skip hf (g := 79) rfl rfl rfl rfl rfl rfl fun a hf => ?_
              refine o_skip hf (g := 79) rfl rfl rfl rfl rfl rfl fun a hf => ?_
              refine o_skip hf (g := 79) rfl rfl rfl rfl rfl rfl fun a hf => ?_
              refine o_run hf (r_pickF hf rfl rfl) rfl fun a hf => ?_
              refine o_run hf (r_move hf rfl) rfl fun a hf => ?_
              refine o_skip hf (g := 84) rfl rfl rfl rfl rfl rfl fun a hf => ?_
              refine o_run hf (r_pickF hf rfl rfl) rfl fun a hf => ?_
              refine o_run hf (r_assign hf rfl) rfl fun a hf => ?_
              refine o_nil ?_
              refine c_then ?_
              have ho := out_inj hp
              subst ho
              exact ⟨false, rfl, hw, hf.to ⟨rfl, trivial⟩⟩
          · replace hp := cond_f hb940 hp
            refine o_skip hf (g := 76) rfl rfl rfl rfl rfl rfl fun a hf => ?_
            refine o_run hf (r_pickF hf rfl rfl) rfl fun a hf => ?_
            refine o_run hf (r_move hf rfl) rfl fun a hf => ?_
            refine o_skip hf (g := 79) rfl rfl rfl rfl rfl rfl fun a hf => ?_
            refine o_skip hf (g := 79) rfl rfl rfl rfl rfl rfl fun a hf => ?_
            refine o_skip hf (g := 79) rfl rfl rfl rfl rfl rfl fun a hf => ?_
            refine o_run hf (r_pickF hf rfl rfl) rfl fun a hf => ?_
            refine o_run hf (r_move hf rfl) rfl fun a hf => ?_
            refine o_skip hf (g := 84) rfl rfl rfl rfl rfl rfl fun a hf => ?_
            refine o_run hf (r_pickF hf rfl rfl) rfl fun a hf => ?_
            refine o_run hf (r_assign hf rfl) rfl fun a hf => ?_
            refine o_nil ?_
            refine c_then ?_
            have ho := out_inj hp
            subst ho
            exact ⟨false, rfl, hw, hf.to ⟨rfl, trivial⟩⟩
        · intro a w hM
          obtain ⟨y937, rfl, hw, hf⟩ := hM
          replace hp := hq939
          refine wp_ret ?_
          replace hw : Ok E I2_216 (F) w := hw.sub (List.Sublist.cons _ (List.Sublist.refl _))
          have ho := out_inj hp
          subst ho
          exact b_ret1 hf Go.Proofs.Try.results6 rfl ⟨_, rfl, ⟨rfl, (hw.back (IH.le_trans (IH.le_trans (IH.le_trans (IH.le_trans hle186 hle196) hle198) hle210) hle220) (List.Sublist.refl _))⟩⟩
end Go.Lf
