/- The Go functions compute the plain Lean functions (printed by our lift.py). -/
import Derived.Test.YtckhmgglgbnaaaaZD
import Derived.Test.YtckhmgglgbnaaaaZF
import Derived.Test.YtckhmgglgbnaaaaN
import Derived.Test.YtckhmgglgbnaaaaZK7
set_option linter.unusedVariables false
set_option linter.unusedSimpArgs false
namespace Go.Lf
open Go
set_option maxHeartbeats 1000000 in
set_option maxRecDepth 20000 in
theorem keep_Plans_ok {E : World} {I : IH} {F : List Atom} {w : World} {a0 : List Plan} {a0v1397 : Value} {a1 : List Plan} {a1v1399 : Value} {res0 : Bool} (hw : Ok E I (F) w) (hR1398 : RS ek_Plan I a0v1397 a0) (hR1400 : RS ek_Plan I a1v1399 a1) (hp : keep_Plans.f a0 a1 = some res0) :
    Calls P 20 ⟨[a0v1397, a1v1399]⟩ w fun e w' => ∃ v, e = .returned v ∧ v = Value.bool res0 ∧ Ok E I (F) w' := by
  refine c_enter Go.Proofs.Try.func20 rfl Go.Proofs.Try.ntmps20 rfl fun a hf => ?_
  replace hf : Fr 69 [(0, a0v1397), (1, a1v1399)] a := hf
  unfold keep_Plans.f at hp
  refine wp_seq ?_
  refine wp_region_lit ?_
  refine o_run hf (r_assign hf rfl) rfl fun a hf => ?_
  refine o_nil ?_
  refine c_then ?_
  refine wp_seq ?_
  refine wp_seq ?_
  refine wp_region_lit ?_
  refine o_run hf (r_move hf rfl) rfl fun a hf => ?_
  refine o_run hf (r_lenL (K := ek_Plan) hf el_29 rfl (hR1398.rd hw)) rfl fun a hf => ?_
  refine o_run hf (r_move hf rfl) rfl fun a hf => ?_
  refine o_run hf (r_lenL (K := ek_Plan) hf el_29 rfl (hR1400.rd hw)) rfl fun a hf => ?_
  refine o_run hf (r_icmp hf rfl rfl rfl) rfl fun a hf => ?_
  refine o_nil ?_
  refine c_then ?_
  refine c_cond hf rfl (fun hb1 => ?_) (fun hb1 => ?_)
  · replace hp := cond_t hb1 hp
    refine wp_seq ?_
    refine wp_region_lit ?_
    refine o_run hf (r_assign hf rfl) rfl fun a hf => ?_
    refine o_nil ?_
    refine c_then ?_
    refine wp_ret ?_
    refine c_thenR ?_
    have ho := out_inj hp
    subst ho
    exact b_ret1 hf Go.Proofs.Try.results20 rfl ⟨_, rfl, ⟨rfl, hw⟩⟩
  · replace hp := cond_f hb1 hp
    refine wp_skip ?_
    refine c_then ?_
    refine wp_seq ?_
    refine wp_seq ?_
    refine wp_region_lit ?_
    refine o_run hf (r_assign hf rfl) rfl fun a hf => ?_
    refine o_nil ?_
    refine c_then ?_
    obtain ⟨out679, hp, hq680⟩ := bind_some hp
    refine c_cutX (fun a w => (.inl ()) = out679 ∧ Ok E I (F) w ∧ Fr 69 ([]) a) ?_ ?_
    · refine wp_block ?_
      refine c_loop ?_
      refine c_fuel (keep_Plans.l0 a0 a1) out679 (fun (y453 : Int) a w => Ok E I (F) w ∧ Fr 69 ([(0, a0v1397), (1, a1v1399), (5, Value.int .i64 y453)]) a) (fun _ => rfl) ?_ BIG 0 _ _ ⟨hw, hf.to ⟨rfl, rfl, rfl, trivial⟩⟩ hp
      intro k y453 a w hI hp ih
      obtain ⟨hw, hf⟩ := hI
      rw [keep_Plans.l0] at hp
      refine wp_seq ?_
      refine wp_seq ?_
      refine wp_region_lit ?_
      refine o_run hf (r_move hf rfl) rfl fun a hf => ?_
      refine o_run hf (r_move hf rfl) rfl fun a hf => ?_
      refine o_run hf (r_lenL (K := ek_Plan) hf el_29 rfl (hR1398.rd hw)) rfl fun a hf => ?_
      refine o_run hf (r_icmp hf rfl rfl rfl) rfl fun a hf => ?_
      refine o_nil ?_
      refine c_then ?_
      refine c_cond hf rfl (fun hb682 => ?_) (fun hb682 => ?_)
      · replace hp := cond_t hb682 hp
        refine wp_skip ?_
        refine c_then ?_
        refine wp_seq ?_
        refine wp_block ?_
        obtain ⟨out868, hp, hq869⟩ := bind_some hp
        refine c_cut (fun a w => ∃ y867 : Bool, y867 = out868 ∧ Ok E I (F) w ∧ Fr 69 ([(0, a0v1397), (1, a1v1399), (5, Value.int .i64 y453), (68, Value.bool y867)]) a) ?_ ?_
        · refine c_drawn mix [] (.rd 0 (.rd 1 (.rd 2 (.rd 3 (.rd 4 (.rd 5 (.rd 6 (.rd 7 (.rd 8 (.rd 9 (.rd 10 (.rd 11 (.rd 12 (.rd 13 (.rd 14 (.rd 15 (.rd 16 (.rd 17 (.rd 18 (.rd 19 (.rd 20 (.rd 21 (.rd 22 (.rd 23 (.rd 24 (.rd 25 (.rd 26 (.rd 27 (.rd 28 (.rd 29 (.rd 30 (.rd 31 (.rd 32 (.rd 33 (.rd 34 (.ef 35 (.rd 36 (.rd 37 (.rd 38 (.rd 39 (.rd 40 (.rd 41 (.rd 42 (.rd 43 (.rd 44 (.rd 45 (.rd 46 (.rd 47 (.rd 48 (.ef 49 (.rd 50 (.rd 51 .done)))))))))))))))))))))))))))))))))))))))))))))))))))) (by kernel_rfl) hw (fun w => Ok E I (F) w) (fun w hw => ⟨hw.sub (List.Sublist.refl _), ?_⟩)
          refine t_rd rfl hf (fun w hw => r_move hf rfl) rfl fun a hf => ?_
          refine t_rd rfl hf (fun w hw => r_move hf rfl) rfl fun a hf => ?_
          obtain ⟨hg871, hp⟩ := gd_some hp
          refine t_rd rfl hf (fun w hw => r_indexAddr (K := ek_Plan) hf el_29 rfl rfl (hR1398.rd hw) hg871) rfl fun a hf => ?_
          refine t_rd rfl hf (fun w hw => r_fieldAddrH hf rfl fd_26_0) rfl fun a hf => ?_
          refine t_rd rfl hf (fun w hw => r_loadH (K := ek_Plan) hf rfl ty_9 (hR1398.rd hw) hg871 rfl (fun cs h => Plan_f0 h)) rfl fun a hf => ?_
          refine t_rd rfl hf (fun w hw => r_move hf rfl) rfl fun a hf => ?_
          refine t_rd rfl hf (fun w hw => r_move hf rfl) rfl fun a hf => ?_
          obtain ⟨hg872, hp⟩ := gd_some hp
          refine t_rd rfl hf (fun w hw => r_indexAddr (K := ek_Plan) hf el_29 rfl rfl (hR1400.rd hw) hg872) rfl fun a hf => ?_
          refine t_rd rfl hf (fun w hw => r_fieldAddrH hf rfl fd_26_0) rfl fun a hf => ?_
          refine t_rd rfl hf (fun w hw => r_loadH (K := ek_Plan) hf rfl ty_9 (hR1400.rd hw) hg872 rfl (fun cs h => Plan_f0 h)) rfl fun a hf => ?_
          refine t_rd rfl hf (fun w hw => r_scmp hf rfl rfl rfl) rfl fun a hf => ?_
          refine t_rd rfl hf (fun w hw => r_move hf rfl) rfl fun a hf => ?_
          refine g_split hf (g := 28) rfl (fun hb873 hf => ?_) (fun hb873 hf => ?_)
          · replace hp := cond_t hb873 hp
            refine t_rdS rfl rfl hf rfl rfl rfl fun a hf => ?_
            refine t_rdS rfl rfl hf rfl rfl rfl fun a hf => ?_
            refine t_rdS rfl rfl hf rfl rfl rfl fun a hf => ?_
            refine t_rdS rfl rfl hf rfl rfl rfl fun a hf => ?_
            refine t_rdS rfl rfl hf rfl rfl rfl fun a hf => ?_
            refine t_rdS rfl rfl hf rfl rfl rfl fun a hf => ?_
            refine t_rdS rfl rfl hf rfl rfl rfl fun a hf => ?_
            refine t_rdS rfl rfl hf rfl rfl rfl fun a hf => ?_
            refine t_rdS rfl rfl hf rfl rfl rfl fun a hf => ?_
            refine t_rdS rfl rfl hf rfl rfl rfl fun a hf => ?_
            refine t_rdS rfl rfl hf rfl rfl rfl fun a hf => ?_
            refine t_rd rfl hf (fun w hw => r_pickT hf rfl rfl) rfl fun a hf => ?_
            refine t_rd rfl hf (fun w hw => r_move hf rfl) rfl fun a hf => ?_
            refine t_rdS rfl rfl hf rfl rfl rfl fun a hf => ?_
            refine t_rdS rfl rfl hf rfl rfl rfl fun a hf => ?_
            refine t_rdS rfl rfl hf rfl rfl rfl fun a hf => ?_
            refine t_rdS rfl rfl hf rfl rfl rfl fun a hf => ?_
            refine t_rdS rfl rfl hf rfl rfl rfl fun a hf => ?_
            refine t_rdS rfl rfl hf rfl rfl rfl fun a hf => ?_
            refine t_rdS rfl rfl hf rfl rfl rfl fun a hf => ?_
            refine t_rdS rfl rfl hf rfl rfl rfl fun a hf => ?_
            refine t_rdS rfl rfl hf rfl rfl rfl fun a hf => ?_
            refine t_rdS rfl rfl hf rfl rfl rfl fun a hf => ?_
            refine t_ef rfl ?_
            refine t_skipE rfl hf rfl rfl rfl fun a hf => ⟨.inr (hw.back (IH.le_refl _) (List.Sublist.refl _)), ?_⟩
            refine t_rdS rfl rfl hf rfl rfl rfl fun a hf => ?_
            refine t_rd rfl hf (fun w hw => r_pickT hf rfl rfl) rfl fun a hf => ?_
            refine t_rd rfl hf (fun w hw => r_move hf rfl) rfl fun a hf => ?_
            refine t_rdS rfl rfl hf rfl rfl rfl fun a hf => ?_
            refine t_rdS rfl rfl hf rfl rfl rfl fun a hf => ?_
            refine t_rdS rfl rfl hf rfl rfl rfl fun a hf => ?_
            refine t_rdS rfl rfl hf rfl rfl rfl fun a hf => ?_
            refine t_rdS rfl rfl hf rfl rfl rfl fun a hf => ?_
            refine t_rdS rfl rfl hf rfl rfl rfl fun a hf => ?_
            refine t_rdS rfl rfl hf rfl rfl rfl fun a hf => ?_
            refine t_rdS rfl rfl hf rfl rfl rfl fun a hf => ?_
            refine t_rdS rfl rfl hf rfl rfl rfl fun a hf => ?_
            refine t_rdS rfl rfl hf rfl rfl rfl fun a hf => ?_
            refine t_ef rfl ?_
            refine t_skipE rfl hf rfl rfl rfl fun a hf => ⟨.inr (hw.back (IH.le_refl _) (List.Sublist.refl _)), ?_⟩
            refine t_rdS rfl rfl hf rfl rfl rfl fun a hf => ?_
            refine t_rd rfl hf (fun w hw => r_pickT hf rfl rfl) rfl fun a hf => ?_
            refine t_done ?_
            refine c_then ?_
            have ho := out_inj hp
            subst ho
            exact ⟨true, rfl, hw, hf.to ⟨rfl, rfl, rfl, rfl, trivial⟩⟩
          · replace hp := cond_f hb873 hp
            refine t_rdG rfl rfl hf rfl (fun w hw => r_move hf rfl) rfl fun a hf => ?_
            refine t_rdG rfl rfl hf rfl (fun w hw => r_move hf rfl) rfl fun a hf => ?_
            obtain ⟨hg874, hp⟩ := gd_some hp
            refine t_rdG rfl rfl hf rfl (fun w hw => r_indexAddr (K := ek_Plan) hf el_29 rfl rfl (hR1398.rd hw) hg874) rfl fun a hf => ?_
            refine t_rdG rfl rfl hf rfl (fun w hw => r_fieldAddrH hf rfl fd_26_1) rfl fun a hf => ?_
            refine t_rdG rfl rfl hf rfl (fun w hw => r_loadH (K := ek_Plan) hf rfl ty_3 (hR1398.rd hw) hg874 rfl (fun cs h => Plan_f1 h)) rfl fun a hf => ?_
            refine t_rdG rfl rfl hf rfl (fun w hw => r_move hf rfl) rfl fun a hf => ?_
            refine t_rdG rfl rfl hf rfl (fun w hw => r_move hf rfl) rfl fun a hf => ?_
            obtain ⟨hg875, hp⟩ := gd_some hp
            refine t_rdG rfl rfl hf rfl (fun w hw => r_indexAddr (K := ek_Plan) hf el_29 rfl rfl (hR1400.rd hw) hg875) rfl fun a hf => ?_
            refine t_rdG rfl rfl hf rfl (fun w hw => r_fieldAddrH hf rfl fd_26_1) rfl fun a hf => ?_
            refine t_rdG rfl rfl hf rfl (fun w hw => r_loadH (K := ek_Plan) hf rfl ty_3 (hR1400.rd hw) hg875 rfl (fun cs h => Plan_f1 h)) rfl fun a hf => ?_
            refine t_rdG rfl rfl hf rfl (fun w hw => r_icmp hf rfl rfl rfl) rfl fun a hf => ?_
            refine t_rd rfl hf (fun w hw => r_pickF hf rfl rfl) rfl fun a hf => ?_
            refine t_rd rfl hf (fun w hw => r_move hf rfl) rfl fun a hf => ?_
            refine g_split hf (g := 41) rfl (fun hb876 hf => ?_) (fun hb876 hf => ?_)
            · replace hp := cond_t hb876 hp
              refine t_rdS rfl rfl hf rfl rfl rfl fun a hf => ?_
              refine t_rdS rfl rfl hf rfl rfl rfl fun a hf => ?_
              refine t_rdS rfl rfl hf rfl rfl rfl fun a hf => ?_
              refine t_rdS rfl rfl hf rfl rfl rfl fun a hf => ?_
              refine t_rdS rfl rfl hf rfl rfl rfl fun a hf => ?_
              refine t_rdS rfl rfl hf rfl rfl rfl fun a hf => ?_
              refine t_rdS rfl rfl hf rfl rfl rfl fun a hf => ?_
              refine t_rdS rfl rfl hf rfl rfl rfl fun a hf => ?_
              refine t_rdS rfl rfl hf rfl rfl rfl fun a hf => ?_
              refine t_rdS rfl rfl hf rfl rfl rfl fun a hf => ?_
              refine t_ef rfl ?_
              refine t_skipE rfl hf rfl rfl rfl fun a hf => ⟨.inr (hw.back (IH.le_refl _) (List.Sublist.refl _)), ?_⟩
              refine t_rdS rfl rfl hf rfl rfl rfl fun a hf => ?_
              refine t_rd rfl hf (fun w hw => r_pickT hf rfl rfl) rfl fun a hf => ?_
              refine t_rd rfl hf (fun w hw => r_move hf rfl) rfl fun a hf => ?_
              refine t_rdS rfl rfl hf rfl rfl rfl fun a hf => ?_
              refine t_rdS rfl rfl hf rfl rfl rfl fun a hf => ?_
              refine t_rdS rfl rfl hf rfl rfl rfl fun a hf => ?_
              refine t_rdS rfl rfl hf rfl rfl rfl fun a hf => ?_
              refine t_rdS rfl rfl hf rfl rfl rfl fun a hf => ?_
              refine t_rdS rfl rfl hf rfl rfl rfl fun a hf => ?_
              refine t_rdS rfl rfl hf rfl rfl rfl fun a hf => ?_
              refine t_rdS rfl rfl hf rfl rfl rfl fun a hf => ?_
              refine t_rdS rfl rfl hf rfl rfl rfl fun a hf => ?_
              refine t_rdS rfl rfl hf rfl rfl rfl fun a hf => ?_
              refine t_ef rfl ?_
              refine t_skipE rfl hf rfl rfl rfl fun a hf => ⟨.inr (hw.back (IH.le_refl _) (List.Sublist.refl _)), ?_⟩
              refine t_rdS rfl rfl hf rfl rfl rfl fun a hf => ?_
              refine t_rd rfl hf (fun w hw => r_pickT hf rfl rfl) rfl fun a hf => ?_
              refine t_done ?_
              refine c_then ?_
              have ho := out_inj hp
              subst ho
              exact ⟨true, rfl, hw, hf.to ⟨rfl, rfl, rfl, rfl, trivial⟩⟩
            · replace hp := cond_f hb876 hp
              refine t_rdG rfl rfl hf rfl (fun w hw => r_move hf rfl) rfl fun a hf => ?_
              refine t_rdG rfl rfl hf rfl (fun w hw => r_move hf rfl) rfl fun a hf => ?_
              obtain ⟨hg877, hp⟩ := gd_some hp
              refine t_rdG rfl rfl hf rfl (fun w hw => r_indexAddr (K := ek_Plan) hf el_29 rfl rfl (hR1398.rd hw) hg877) rfl fun a hf => ?_
              refine t_rdG rfl rfl hf rfl (fun w hw => r_fieldAddrH hf rfl fd_26_2) rfl fun a hf => ?_
              obtain ⟨v878, hR879, hrun880⟩ := rs_loadHX (P := P) ty_24 hR1398 hg877 rfl (fun cs h => Plan_f2 h)
              refine t_rdG rfl rfl hf rfl (fun w hw => hrun880 _ _ _ _ _ _ _ _ _ _ _ _ hw hf rfl) rfl fun a hf => ?_
              refine t_rdG rfl rfl hf rfl (fun w hw => r_move hf rfl) rfl fun a hf => ?_
              refine t_rdG rfl rfl hf rfl (fun w hw => r_move hf rfl) rfl fun a hf => ?_
              obtain ⟨hg881, hp⟩ := gd_some hp
              refine t_rdG rfl rfl hf rfl (fun w hw => r_indexAddr (K := ek_Plan) hf el_29 rfl rfl (hR1400.rd hw) hg881) rfl fun a hf => ?_
              refine t_rdG rfl rfl hf rfl (fun w hw => r_fieldAddrH hf rfl fd_26_2) rfl fun a hf => ?_
              obtain ⟨v882, hR883, hrun884⟩ := rs_loadHX (P := P) ty_24 hR1400 hg881 rfl (fun cs h => Plan_f2 h)
              refine t_rdG rfl rfl hf rfl (fun w hw => hrun884 _ _ _ _ _ _ _ _ _ _ _ _ hw hf rfl) rfl fun a hf => ?_
              refine t_ef rfl ?_
              obtain ⟨y885, hy886, hp⟩ := bind_some hp
              have hc888 := keep_Ints_ok hw hR879 hR883 hy886
              refine t_callG rfl hf rfl cb_34 rfl rfl hc888 (fun v890 w a hK889 hf => ?_)
              obtain ⟨rfl, hw⟩ := hK889
              refine ⟨.inr (hw.back (IH.le_refl _) (List.Sublist.refl _)), ?_⟩
              refine t_rdG rfl rfl hf rfl (fun w hw => r_not hf rfl) rfl fun a hf => ?_
              refine t_rd rfl hf (fun w hw => r_pickF hf rfl rfl) rfl fun a hf => ?_
              refine t_rd rfl hf (fun w hw => r_move hf rfl) rfl fun a hf => ?_
              refine g_split hf (g := 55) rfl (fun hb891 hf => ?_) (fun hb891 hf => ?_)
              · replace hp := cond_t hb891 hp
                refine t_rdS rfl rfl hf rfl rfl rfl fun a hf => ?_
                refine t_rdS rfl rfl hf rfl rfl rfl fun a hf => ?_
                refine t_rdS rfl rfl hf rfl rfl rfl fun a hf => ?_
                refine t_rdS rfl rfl hf rfl rfl rfl fun a hf => ?_
                refine t_rdS rfl rfl hf rfl rfl rfl fun a hf => ?_
                refine t_rdS rfl rfl hf rfl rfl rfl fun a hf => ?_
                refine t_rdS rfl rfl hf rfl rfl rfl fun a hf => ?_
                refine t_rdS rfl rfl hf rfl rfl rfl fun a hf => ?_
                refine t_rdS rfl rfl hf rfl rfl rfl fun a hf => ?_
                refine t_rdS rfl rfl hf rfl rfl rfl fun a hf => ?_
                refine t_ef rfl ?_
                refine t_skipE rfl hf rfl rfl rfl fun a hf => ⟨.inr (hw.back (IH.le_refl _) (List.Sublist.refl _)), ?_⟩
                refine t_rdS rfl rfl hf rfl rfl rfl fun a hf => ?_
                refine t_rd rfl hf (fun w hw => r_pickT hf rfl rfl) rfl fun a hf => ?_
                refine t_done ?_
                refine c_then ?_
                have ho := out_inj hp
                subst ho
                exact ⟨true, rfl, hw, hf.to ⟨rfl, rfl, rfl, rfl, trivial⟩⟩
              · replace hp := cond_f hb891 hp
                refine t_rdG rfl rfl hf rfl (fun w hw => r_move hf rfl) rfl fun a hf => ?_
                refine t_rdG rfl rfl hf rfl (fun w hw => r_move hf rfl) rfl fun a hf => ?_
                obtain ⟨hg892, hp⟩ := gd_some hp
                refine t_rdG rfl rfl hf rfl (fun w hw => r_indexAddr (K := ek_Plan) hf el_29 rfl rfl (hR1398.rd hw) hg892) rfl fun a hf => ?_
                refine t_rdG rfl rfl hf rfl (fun w hw => r_fieldAddrH hf rfl fd_26_3) rfl fun a hf => ?_
                obtain ⟨v893, hR894, hrun895⟩ := rs_loadHX (P := P) ty_24 hR1398 hg892 rfl (fun cs h => Plan_f3 h)
                refine t_rdG rfl rfl hf rfl (fun w hw => hrun895 _ _ _ _ _ _ _ _ _ _ _ _ hw hf rfl) rfl fun a hf => ?_
                refine t_rdG rfl rfl hf rfl (fun w hw => r_move hf rfl) rfl fun a hf => ?_
                refine t_rdG rfl rfl hf rfl (fun w hw => r_move hf rfl) rfl fun a hf => ?_
                obtain ⟨hg896, hp⟩ := gd_some hp
                refine t_rdG rfl rfl hf rfl (fun w hw => r_indexAddr (K := ek_Plan) hf el_29 rfl rfl (hR1400.rd hw) hg896) rfl fun a hf => ?_
                refine t_rdG rfl rfl hf rfl (fun w hw => r_fieldAddrH hf rfl fd_26_3) rfl fun a hf => ?_
                obtain ⟨v897, hR898, hrun899⟩ := rs_loadHX (P := P) ty_24 hR1400 hg896 rfl (fun cs h => Plan_f3 h)
                refine t_rdG rfl rfl hf rfl (fun w hw => hrun899 _ _ _ _ _ _ _ _ _ _ _ _ hw hf rfl) rfl fun a hf => ?_
                refine t_ef rfl ?_
                obtain ⟨y900, hy901, hp⟩ := bind_some hp
                have hc903 := keep_Ints_ok hw hR894 hR898 hy901
                refine t_callG rfl hf rfl cb_34 rfl rfl hc903 (fun v905 w a hK904 hf => ?_)
                obtain ⟨rfl, hw⟩ := hK904
                refine ⟨.inr (hw.back (IH.le_refl _) (List.Sublist.refl _)), ?_⟩
                refine t_rdG rfl rfl hf rfl (fun w hw => r_not hf rfl) rfl fun a hf => ?_
                refine t_rd rfl hf (fun w hw => r_pickF hf rfl rfl) rfl fun a hf => ?_
                refine t_done ?_
                refine c_then ?_
                have ho := out_inj hp
                subst ho
                exact ⟨(!y900), rfl, hw, hf.to ⟨rfl, rfl, rfl, rfl, trivial⟩⟩
        · intro a w hM
          obtain ⟨y867, rfl, hw, hf⟩ := hM
          replace hp := hq869
          refine c_cond hf rfl (fun hb906 => ?_) (fun hb906 => ?_)
          · replace hp := cond_t hb906 hp
            refine wp_seq ?_
            refine wp_region_lit ?_
            refine o_run hf (r_assign hf rfl) rfl fun a hf => ?_
            refine o_nil ?_
            refine c_then ?_
            refine wp_ret ?_
            refine c_blockR ?_
            refine c_thenR ?_
            refine c_thenR ?_
            refine c_blockR ?_
            refine c_thenR ?_
            have ho := out_inj hp
            subst ho
            replace hp := hq680
            refine c_thenR ?_
            have ho := out_inj hp
            subst ho
            exact b_ret1 hf Go.Proofs.Try.results20 rfl ⟨_, rfl, ⟨rfl, hw⟩⟩
          · replace hp := cond_f hb906 hp
            refine wp_skip ?_
            refine c_blockN ?_
            refine c_then ?_
            refine wp_region_lit ?_
            refine o_run hf (r_move hf rfl) rfl fun a hf => ?_
            refine o_run hf (r_add hf rfl rfl) rfl fun a hf => ?_
            refine o_run hf (r_assign hf rfl) rfl fun a hf => ?_
            refine o_nil ?_
            refine c_then ?_
            exact ih (w64 (y453 + 1)) _ _ ⟨hw, hf.to ⟨rfl, rfl, rfl, trivial⟩⟩ hp
      · replace hp := cond_f hb682 hp
        refine wp_exit ?_
        refine c_thenE ?_
        refine c_thenE ?_
        refine c_exit ?_
        refine c_then ?_
        have ho := out_inj hp
        subst ho
        exact ⟨rfl, hw, hf.to trivial⟩
    · intro a w hM
      obtain ⟨rfl, hw, hf⟩ := hM
      replace hp := hq680
      refine c_then ?_
      refine wp_seq ?_
      refine wp_region_lit ?_
      refine o_run hf (r_assign hf rfl) rfl fun a hf => ?_
      refine o_nil ?_
      refine c_then ?_
      refine wp_ret ?_
      have ho := out_inj hp
      subst ho
      exact b_ret1 hf Go.Proofs.Try.results20 rfl ⟨_, rfl, ⟨rfl, hw⟩⟩

set_option maxHeartbeats 1000000 in
set_option maxRecDepth 20000 in
theorem keep_Trie_ok {E : World} {I : IH} {F : List Atom} {w : World} {a0 : List Node} {a0v921 : Value} {a1 : List Node} {a1v923 : Value} {res0 : Bool} (hw : Ok E I (F) w) (hR922 : RS ek_Node I a0v921 a0) (hR924 : RS ek_Node I a1v923 a1) (hp : keep_Trie.f a0 a1 = some res0) :
    Calls P 21 ⟨[a0v921, a1v923]⟩ w fun e w' => ∃ v, e = .returned v ∧ v = Value.bool res0 ∧ Ok E I (F) w' := by
  refine c_enter Go.Proofs.Try.func21 rfl Go.Proofs.Try.ntmps21 rfl fun a hf => ?_
  replace hf : Fr 26 [(0, a0v921), (1, a1v923)] a := hf
  unfold keep_Trie.f at hp
  refine wp_seq ?_
  refine wp_region_lit ?_
  refine o_run hf (r_assign hf rfl) rfl fun a hf => ?_
  refine o_nil ?_
  refine c_then ?_
  refine wp_seq ?_
  refine wp_seq ?_
  refine wp_region_lit ?_
  refine o_run hf (r_move hf rfl) rfl fun a hf => ?_
  refine o_run hf (r_lenL (K := ek_Node) hf el_23 rfl (hR922.rd hw)) rfl fun a hf => ?_
  refine o_run hf (r_move hf rfl) rfl fun a hf => ?_
  refine o_run hf (r_lenL (K := ek_Node) hf el_23 rfl (hR924.rd hw)) rfl fun a hf => ?_
  refine o_run hf (r_icmp hf rfl rfl rfl) rfl fun a hf => ?_
  refine o_nil ?_
  refine c_then ?_
  refine c_cond hf rfl (fun hb1 => ?_) (fun hb1 => ?_)
  · replace hp := cond_t hb1 hp
    refine wp_seq ?_
    refine wp_region_lit ?_
    refine o_run hf (r_assign hf rfl) rfl fun a hf => ?_
    refine o_nil ?_
    refine c_then ?_
    refine wp_ret ?_
    refine c_thenR ?_
    have ho := out_inj hp
    subst ho
    exact b_ret1 hf Go.Proofs.Try.results21 rfl ⟨_, rfl, ⟨rfl, hw⟩⟩
  · replace hp := cond_f hb1 hp
    refine wp_skip ?_
    refine c_then ?_
    refine wp_seq ?_
    refine wp_seq ?_
    refine wp_region_lit ?_
    refine o_run hf (r_assign hf rfl) rfl fun a hf => ?_
    refine o_nil ?_
    refine c_then ?_
    obtain ⟨out19, hp, hq20⟩ := bind_some hp
    refine c_cutX (fun a w => (.inl ()) = out19 ∧ Ok E I (F) w ∧ Fr 26 ([]) a) ?_ ?_
    · refine wp_block ?_
      refine c_loop ?_
      refine c_fuel (keep_Trie.l0 a0 a1) out19 (fun (y13 : Int) a w => Ok E I (F) w ∧ Fr 26 ([(0, a0v921), (1, a1v923), (5, Value.int .i64 y13)]) a) (fun _ => rfl) ?_ BIG 0 _ _ ⟨hw, hf.to ⟨rfl, rfl, rfl, trivial⟩⟩ hp
      intro k y13 a w hI hp ih
      obtain ⟨hw, hf⟩ := hI
      rw [keep_Trie.l0] at hp
      refine wp_seq ?_
      refine wp_seq ?_
      refine wp_region_lit ?_
      refine o_run hf (r_move hf rfl) rfl fun a hf => ?_
      refine o_run hf (r_move hf rfl) rfl fun a hf => ?_
      refine o_run hf (r_lenL (K := ek_Node) hf el_23 rfl (hR922.rd hw)) rfl fun a hf => ?_
      refine o_run hf (r_icmp hf rfl rfl rfl) rfl fun a hf => ?_
      refine o_nil ?_
      refine c_then ?_
      refine c_cond hf rfl (fun hb22 => ?_) (fun hb22 => ?_)
      · replace hp := cond_t hb22 hp
        refine wp_skip ?_
        refine c_then ?_
        refine wp_seq ?_
        refine wp_block ?_
        refine wp_seq ?_
        refine c_drawn mix [] (.rd 0 (.rd 1 (.rd 2 (.rd 3 (.rd 4 (.rd 5 (.rd 6 (.rd 7 (.rd 8 .done))))))))) (by kernel_rfl) hw (fun w => Ok E I (F) w) (fun w hw => ⟨hw.sub (List.Sublist.refl _), ?_⟩)
        refine t_rd rfl hf (fun w hw => r_move hf rfl) rfl fun a hf => ?_
        refine t_rd rfl hf (fun w hw => r_move hf rfl) rfl fun a hf => ?_
        obtain ⟨hg24, hp⟩ := gd_some hp
        refine t_rd rfl hf (fun w hw => r_indexAddr (K := ek_Node) hf el_23 rfl rfl (hR922.rd hw) hg24) rfl fun a hf => ?_
        refine t_rd rfl hf (fun w hw => r_loadHP (K := ek_Node) hf rfl ty_51 (hR922.rd hw) hg24 rfl (vs := (Value.int .i64 ((gt a0 y13).kind_) :: Value.string ((gt a0 y13).path_) :: Value.bool ((gt a0 y13).has_) :: Value.string ((gt a0 y13).value_) :: arrC .i64 ((gt a0 y13).kids_))) (fun cs h => Node_all h) (by simp [arrC_len])) rfl fun a hf => ?_
        refine t_rd rfl hf (fun w hw => r_move hf rfl) rfl fun a hf => ?_
        refine t_rd rfl hf (fun w hw => r_move hf rfl) rfl fun a hf => ?_
        obtain ⟨hg25, hp⟩ := gd_some hp
        refine t_rd rfl hf (fun w hw => r_indexAddr (K := ek_Node) hf el_23 rfl rfl (hR924.rd hw) hg25) rfl fun a hf => ?_
        refine t_rd rfl hf (fun w hw => r_loadHP (K := ek_Node) hf rfl ty_51 (hR924.rd hw) hg25 rfl (vs := (Value.int .i64 ((gt a1 y13).kind_) :: Value.string ((gt a1 y13).path_) :: Value.bool ((gt a1 y13).has_) :: Value.string ((gt a1 y13).value_) :: arrC .i64 ((gt a1 y13).kids_))) (fun cs h => Node_all h) (by simp [arrC_len])) rfl fun a hf => ?_
        refine t_rd rfl hf (fun w hw => r_neq_Node hf (x := (gt a0 y13)) (y := (gt a1 y13)) rfl rfl) rfl fun a hf => ?_
        refine t_done ?_
        refine c_then ?_
        refine c_cond hf rfl (fun hb26 => ?_) (fun hb26 => ?_)
        · replace hp := cond_t hb26 hp
          refine wp_seq ?_
          refine wp_region_lit ?_
          refine o_run hf (r_assign hf rfl) rfl fun a hf => ?_
          refine o_nil ?_
          refine c_then ?_
          refine wp_ret ?_
          refine c_blockR ?_
          refine c_thenR ?_
          refine c_thenR ?_
          refine c_blockR ?_
          refine c_thenR ?_
          have ho := out_inj hp
          subst ho
          replace hp := hq20
          refine c_thenR ?_
          have ho := out_inj hp
          subst ho
          exact b_ret1 hf Go.Proofs.Try.results21 rfl ⟨_, rfl, ⟨rfl, hw⟩⟩
        · replace hp := cond_f hb26 hp
          refine wp_skip ?_
          refine c_blockN ?_
          refine c_then ?_
          refine wp_region_lit ?_
          refine o_run hf (r_move hf rfl) rfl fun a hf => ?_
          refine o_run hf (r_add hf rfl rfl) rfl fun a hf => ?_
          refine o_run hf (r_assign hf rfl) rfl fun a hf => ?_
          refine o_nil ?_
          refine c_then ?_
          exact ih (w64 (y13 + 1)) _ _ ⟨hw, hf.to ⟨rfl, rfl, rfl, trivial⟩⟩ hp
      · replace hp := cond_f hb22 hp
        refine wp_exit ?_
        refine c_thenE ?_
        refine c_thenE ?_
        refine c_exit ?_
        refine c_then ?_
        have ho := out_inj hp
        subst ho
        exact ⟨rfl, hw, hf.to trivial⟩
    · intro a w hM
      obtain ⟨rfl, hw, hf⟩ := hM
      replace hp := hq20
      refine c_then ?_
      refine wp_seq ?_
      refine wp_region_lit ?_
      refine o_run hf (r_assign hf rfl) rfl fun a hf => ?_
      refine o_nil ?_
      refine c_then ?_
      refine wp_ret ?_
      have ho := out_inj hp
      subst ho
      exact b_ret1 hf Go.Proofs.Try.results21 rfl ⟨_, rfl, ⟨rfl, hw⟩⟩
end Go.Lf
