/- The Go functions compute the plain Lean functions (printed by our lift.py). -/
import Derived.Test.YtckhmgglgbnaaaaDoorZD
import Derived.Test.YtckhmgglgbnaaaaDoorZF
import Derived.Test.YtckhmgglgbnaaaaDoorJ
import Derived.Test.YtckhmgglgbnaaaaDoorZK0
import Derived.Test.YtckhmgglgbnaaaaDoorZK12
set_option linter.unusedVariables false
set_option linter.unusedSimpArgs false
namespace Go.Lf
open Go
set_option maxHeartbeats 1000000 in
set_option maxRecDepth 20000 in
theorem ref12_Walk_ok {E : World} {I : IH} {F : List Atom} {w : World} {a0 : List Node} {a0v783 : Value} {a1 : ByteArray} {res0 : List Int} {res1 : Int} (hw : Ok E I (F) w) (hG : Gl I) (hR784 : RS ek_Node I a0v783 a0) (hp : ref12_Walk.f a0 a1 = some (res0, res1)) :
    Calls P 36 ⟨[a0v783, Value.string a1]⟩ w fun e w' => ∃ v, e = .returned v ∧ ∃ I2 : IH, ∃ rvv333 : Value, v = Value.tuple ⟨[rvv333, Value.int .i64 res1]⟩ ∧ IH.le I I2 ∧ Ok E I2 (F) w' ∧ RS (ekI .i64) I2 rvv333 res0 := by
  refine c_enter Go.Proofs.Tryd.func36 rfl Go.Proofs.Tryd.ntmps36 rfl fun a hf => ?_
  replace hf : Fr 73 [(0, a0v783), (1, Value.string a1)] a := hf
  unfold ref12_Walk.f at hp
  refine wp_seq ?_
  refine wp_region_lit ?_
  refine o_run hf (r_assign hf rfl) rfl fun a hf => ?_
  refine o_run hf (r_assign hf rfl) rfl fun a hf => ?_
  refine o_nil ?_
  refine c_then ?_
  refine wp_seq ?_
  refine wp_seq ?_
  refine wp_region_lit ?_
  refine o_run hf (r_move hf rfl) rfl fun a hf => ?_
  obtain ⟨y91, hy92, hp⟩ := bind_some hp
  have hc94 := ref10_Good_ok hw hG hR784 hy92
  refine o_call hf cb_43 rfl rfl hc94 (fun v96 w a hK95 hf => ?_)
  obtain ⟨rfl, hw⟩ := hK95
  refine o_run hf (r_not hf rfl) rfl fun a hf => ?_
  refine o_nil ?_
  refine c_then ?_
  refine c_cond hf rfl (fun hb97 => ?_) (fun hb97 => ?_)
  · replace hp := cond_t hb97 hp
    refine wp_seq ?_
    refine wp_region_lit ?_
    refine o_run hf (r_assign hf rfl) rfl fun a hf => ?_
    refine o_run hf (r_assign hf rfl) rfl fun a hf => ?_
    refine o_nil ?_
    refine c_then ?_
    refine wp_ret ?_
    refine c_thenR ?_
    have ho := out_inj hp
    simp only [Prod.mk.injEq] at ho
    obtain ⟨rfl, rfl⟩ := ho
    exact b_ret2 hf Go.Proofs.Tryd.results36 rfl rfl ⟨_, rfl, ⟨I, (Value.slice none 0 0), rfl, (IH.le_refl _), hw, RS.nil⟩⟩
  · replace hp := cond_f hb97 hp
    refine wp_skip ?_
    refine c_then ?_
    refine wp_seq ?_
    refine wp_seq ?_
    refine wp_region_lit ?_
    refine o_run hf (r_move hf rfl) rfl fun a hf => ?_
    obtain ⟨y98, hy99, hp⟩ := bind_some hp
    have hc101 := ref12_Key_ok hw hG hy99
    refine o_call hf cb_35 rfl rfl hc101 (fun v103 w a hK102 hf => ?_)
    obtain ⟨rfl, hw⟩ := hK102
    refine o_run hf (r_not hf rfl) rfl fun a hf => ?_
    refine o_nil ?_
    refine c_then ?_
    refine c_cond hf rfl (fun hb104 => ?_) (fun hb104 => ?_)
    · replace hp := cond_t hb104 hp
      refine wp_seq ?_
      refine wp_region_lit ?_
      refine o_run hf (r_assign hf rfl) rfl fun a hf => ?_
      refine o_run hf (r_assign hf rfl) rfl fun a hf => ?_
      refine o_nil ?_
      refine c_then ?_
      refine wp_ret ?_
      refine c_thenR ?_
      have ho := out_inj hp
      simp only [Prod.mk.injEq] at ho
      obtain ⟨rfl, rfl⟩ := ho
      exact b_ret2 hf Go.Proofs.Tryd.results36 rfl rfl ⟨_, rfl, ⟨I, (Value.slice none 0 0), rfl, (IH.le_refl _), hw, RS.nil⟩⟩
    · replace hp := cond_f hb104 hp
      refine wp_skip ?_
      refine c_then ?_
      refine wp_seq ?_
      refine wp_region_lit ?_
      refine o_run hf (r_move hf rfl) rfl fun a hf => ?_
      obtain ⟨y105, hy106, hp⟩ := bind_some hp
      have hc108 := ref02_Of_ok hw hG hy106
      refine o_call hf cb_49 rfl rfl hc108 (fun v110 w a hK109 hf => ?_)
      obtain ⟨rfl, hw⟩ := hK109
      refine o_run hf (r_assign hf rfl) rfl fun a hf => ?_
      refine o_nil ?_
      refine c_then ?_
      refine wp_seq ?_
      refine wp_region_lit ?_
      refine o_run hf (r_assign hf rfl) rfl fun a hf => ?_
      refine o_nil ?_
      refine c_then ?_
      refine wp_seq ?_
      refine wp_seq ?_
      refine wp_region_lit ?_
      refine o_run hf (r_assign hf rfl) rfl fun a hf => ?_
      refine o_nil ?_
      refine c_then ?_
      replace hw := hw.nilrow 3 1
      have hRR256 : RowR (ekI .i64) I [] [] := RowR.nil
      obtain ⟨out702, hp, hq703⟩ := bind_some hp
      refine c_cutX (fun a w => ∃ y697 : List Int, ∃ yv698 : Value, ∃ m699 : Nat, ∃ cs700 : List Value, y697 = out702 ∧ Ok E I (.row yv698 3 1 m699 cs700 :: F) w ∧ Fr 73 ([(7, yv698)]) a ∧ RowR (ekI .i64) I cs700 y697) ?_ ?_
      · refine wp_block ?_
        refine c_loop ?_
        refine c_fuel (ref12_Walk.l0 a0) out702 (fun (y548, y553, y554) a w => ∃ yv549 : Value, ∃ m550 : Nat, ∃ cs551 : List Value, Ok E I (.row yv549 3 1 m550 cs551 :: F) w ∧ Fr 73 ([(0, a0v783), (6, Value.string y553), (7, yv549), (8, Value.int .i64 y554)]) a ∧ RowR (ekI .i64) I cs551 y548) (fun _ => rfl) ?_ BIG (([] : List Int), y105, 0) _ _ ⟨(Value.slice none 0 0), 0, [], hw, hf.to ⟨rfl, rfl, rfl, rfl, trivial⟩, hRR256⟩ hp
        intro k st a w hI hp ih
        obtain ⟨y548, y553, y554⟩ := st
        obtain ⟨yv549, m550, cs551, hw, hf, hRR552⟩ := hI
        rw [ref12_Walk.l0] at hp
        refine wp_seq ?_
        refine wp_seq ?_
        refine wp_region_lit ?_
        refine o_run hf (r_move hf rfl) rfl fun a hf => ?_
        refine o_run hf (r_move hf rfl) rfl fun a hf => ?_
        refine o_run hf (r_lenL (K := ek_Node) hf el_23 rfl (hR784.rd hw)) rfl fun a hf => ?_
        refine o_run hf (r_icmp hf rfl rfl rfl) rfl fun a hf => ?_
        refine o_nil ?_
        refine c_then ?_
        refine c_cond hf rfl (fun hb705 => ?_) (fun hb705 => ?_)
        · replace hp := cond_t hb705 hp
          refine wp_skip ?_
          refine c_then ?_
          refine wp_block ?_
          refine wp_seq ?_
          refine wp_region_lit ?_
          refine o_run hf (r_move hf rfl) rfl fun a hf => ?_
          refine o_run hf (r_move hf rfl) rfl fun a hf => ?_
          obtain ⟨w, v706, hrun707, hw, hRR708⟩ := e_buildSlice (P := P) (K := (ekI .i64)) (m := 1) hw hf (parts := [(0, .tmp 24)]) el_70 ty_3 rfl rfl rfl (ccs := [[Value.int .i64 y554]]) rfl (xs := [y554]) ⟨rfl, trivial⟩ rfl
          obtain ⟨cs709, hcs⟩ : ∃ cs, cs = ([[Value.int .i64 y554]] : List (List Value)).flatten := ⟨_, rfl⟩
          rw [← hcs] at hw hRR708; clear hcs
          refine o_eff hf (hrun707 ..) rfl fun a hf => ?_
          obtain ⟨hg711, hp⟩ := gd_some hp
          obtain ⟨w, v712, m713, cs714, hrun716, hw, hRR715⟩ := e_append (P := P) (K := (ekI .i64)) (ty := 70) hw hf (s := .tmp 23) (x := .tmp 25) el_70 ty_3 rfl (by decide) 1 rfl rfl rfl hRR552 (ys := [y554]) (row_rd (K := (ekI .i64)) hw (i := 0) rfl hRR708) hg711
          replace hw : Ok E I (.row v706 3 1 1 cs709 :: .row v712 3 1 m713 cs714 :: F) w := hw
          refine o_eff hf (hrun716 ..) rfl fun a hf => ?_
          refine o_run hf (r_assign hf rfl) rfl fun a hf => ?_
          refine o_nil ?_
          refine c_then ?_
          refine wp_seq ?_
          refine wp_region_lit ?_
          refine o_run hf (r_move hf rfl) rfl fun a hf => ?_
          refine o_run hf (r_move hf rfl) rfl fun a hf => ?_
          obtain ⟨hg717, hp⟩ := gd_some hp
          refine o_run hf (r_indexAddr (K := ek_Node) hf el_23 rfl rfl (hR784.rd hw) hg717) rfl fun a hf => ?_
          refine o_run hf (r_loadHP (K := ek_Node) hf rfl ty_55 (hR784.rd hw) hg717 rfl (vs := (Value.int .i64 ((gt a0 y554).kind_) :: Value.string ((gt a0 y554).path_) :: Value.bool ((gt a0 y554).has_) :: Value.string ((gt a0 y554).value_) :: arrC .i64 ((gt a0 y554).kids_))) (fun cs h => Node_all h) (by simp [arrC_len])) rfl fun a hf => ?_
          obtain ⟨b718, w, hrun719, hw⟩ := e_alloc (P := P) (a := a) hw ty_55
          replace hw : Ok E I (.blk b718 (.cells ⟨Value.int .i64 0 :: Value.string (⟨#[]⟩ : ByteArray) :: Value.bool false :: Value.string (⟨#[]⟩ : ByteArray) :: arrC .i64 (Vector.replicate 16 0 : Vector Int 16)⟩ 55 (0, 0)) :: .row v706 3 1 1 cs709 :: .row v712 3 1 m713 cs714 :: F) w := hw
          refine o_eff hf (hrun719 ..) rfl fun a hf => ?_
          obtain ⟨w, hrun721, hw⟩ := e_store (P := P) hw hf (x := .tmp 9) (y := .tmp 30) rfl rfl ty_55 0 rfl (vs := (Value.int .i64 ((gt a0 y554).kind_) :: Value.string ((gt a0 y554).path_) :: Value.bool ((gt a0 y554).has_) :: Value.string ((gt a0 y554).value_) :: arrC .i64 ((gt a0 y554).kids_))) rfl (by simp [arrC_len]) (ones_cons rfl (ones_cons rfl (ones_cons rfl (ones_cons rfl (arrC_one _ _))))) (by simp [arrC_len]) (cs' := (Value.int .i64 ((gt a0 y554).kind_) :: Value.string ((gt a0 y554).path_) :: Value.bool ((gt a0 y554).has_) :: Value.string ((gt a0 y554).value_) :: arrC .i64 ((gt a0 y554).kids_))) (by simp [arrC_len])
          replace hw : Ok E I (.blk b718 (.cells ⟨Value.int .i64 ((gt a0 y554).kind_) :: Value.string ((gt a0 y554).path_) :: Value.bool ((gt a0 y554).has_) :: Value.string ((gt a0 y554).value_) :: arrC .i64 ((gt a0 y554).kids_)⟩ 55 (0, 0)) :: .row v706 3 1 1 cs709 :: .row v712 3 1 m713 cs714 :: F) w := hw
          refine o_effU (hrun721 ..) ?_
          refine o_nil ?_
          refine c_then ?_
          refine wp_seq ?_
          refine wp_region_lit ?_
          refine o_run hf (r_assign hf rfl) rfl fun a hf => ?_
          refine o_nil ?_
          refine c_then ?_
          obtain ⟨out804, hp, hq805⟩ := bind_some hp
          refine c_cut (fun a w => ∃ y802 : Int, ∃ y803 : ByteArray, (y802, y803) = out804 ∧ Ok E I (.blk b718 (.cells ⟨Value.int .i64 ((gt a0 y554).kind_) :: Value.string ((gt a0 y554).path_) :: Value.bool ((gt a0 y554).has_) :: Value.string ((gt a0 y554).value_) :: arrC .i64 ((gt a0 y554).kids_)⟩ 55 (0, 0)) :: .row v706 3 1 1 cs709 :: .row v712 3 1 m713 cs714 :: F) w ∧ Fr 73 ([(0, a0v783), (6, Value.string y803), (7, v712), (10, Value.int .i64 y802)]) a) ?_ ?_
          · refine wp_block ?_
            obtain ⟨out823, hp, hq824⟩ := bind_some hp
            refine c_cut (fun a w => ∃ y822 : Bool, y822 = out823 ∧ Ok E I (.blk b718 (.cells ⟨Value.int .i64 ((gt a0 y554).kind_) :: Value.string ((gt a0 y554).path_) :: Value.bool ((gt a0 y554).has_) :: Value.string ((gt a0 y554).value_) :: arrC .i64 ((gt a0 y554).kids_)⟩ 55 (0, 0)) :: .row v706 3 1 1 cs709 :: .row v712 3 1 m713 cs714 :: F) w ∧ Fr 73 ([(0, a0v783), (6, Value.string y553), (7, v712), (9, Value.pointer (some ⟨b718, 0, none⟩)), (10, Value.int .i64 0), (31, Value.bool y822)]) a) ?_ ?_
            · refine c_drawn mix [] (.rd 0 (.rd 1 (.rd 2 (.rd 3 (.rd 4 (.rd 5 (.rd 6 (.rd 8 (.rd 9 (.rd 10 (.ef 7 (.rd 11 (.rd 12 (.rd 13 .done)))))))))))))) (by kernel_rfl) hw (fun w => Ok E I (.blk b718 (.cells ⟨Value.int .i64 ((gt a0 y554).kind_) :: Value.string ((gt a0 y554).path_) :: Value.bool ((gt a0 y554).has_) :: Value.string ((gt a0 y554).value_) :: arrC .i64 ((gt a0 y554).kids_)⟩ 55 (0, 0)) :: .row v706 3 1 1 cs709 :: .row v712 3 1 m713 cs714 :: F) w) (fun w hw => ⟨hw.sub (List.Sublist.cons_cons _ (List.Sublist.cons_cons _ (List.Sublist.cons_cons _ (List.Sublist.refl _)))), ?_⟩)
              refine t_rd rfl hf (fun w hw => r_fieldAddr hf rfl fd_55_0) rfl fun a hf => ?_
              refine t_rd rfl hf (fun w hw => r_load hw hf rfl ty_3 0 rfl rfl) rfl fun a hf => ?_
              refine t_rd rfl hf (fun w hw => r_icmp hf rfl rfl rfl) rfl fun a hf => ?_
              refine t_rd rfl hf (fun w hw => r_move hf rfl) rfl fun a hf => ?_
              refine g_split hf (g := 35) rfl (fun hb826 hf => ?_) (fun hb826 hf => ?_)
              · replace hp := cond_t hb826 hp
                refine t_rdG rfl rfl hf rfl (fun w hw => r_move hf rfl) rfl fun a hf => ?_
                refine t_rdG rfl rfl hf rfl (fun w hw => r_fieldAddr hf rfl fd_55_1) rfl fun a hf => ?_
                refine t_rdG rfl rfl hf rfl (fun w hw => r_load hw hf rfl ty_9 0 rfl rfl) rfl fun a hf => ?_
                refine t_rdG rfl rfl hf rfl (fun w hw => r_fieldAddr hf rfl fd_55_1) rfl fun a hf => ?_
                refine t_rdG rfl rfl hf rfl (fun w hw => r_load hw hf rfl ty_9 0 rfl rfl) rfl fun a hf => ?_
                refine t_rdG rfl rfl hf rfl (fun w hw => r_lenS hf und_9 rfl) rfl fun a hf => ?_
                refine t_ef rfl ?_
                obtain ⟨y827, hy828, hp⟩ := bind_some hp
                have hc830 := ref02_Common_ok hw hG hy828
                refine t_callG rfl hf rfl cb_59 rfl rfl hc830 (fun v832 w a hK831 hf => ?_)
                obtain ⟨rfl, hw⟩ := hK831
                refine ⟨.inr (hw.back (IH.le_refl _) (List.Sublist.cons_cons _ (List.Sublist.cons_cons _ (List.Sublist.cons_cons _ (List.Sublist.refl _))))), ?_⟩
                refine t_rdG rfl rfl hf rfl (fun w hw => r_icmp hf rfl rfl rfl) rfl fun a hf => ?_
                refine t_rd rfl hf (fun w hw => r_pickT hf rfl rfl) rfl fun a hf => ?_
                refine t_rd rfl hf (fun w hw => r_assign hf rfl) rfl fun a hf => ?_
                refine t_done ?_
                refine c_then ?_
                have ho := out_inj hp
                subst ho
                exact ⟨(y827 == (((gt a0 y554).path_).size : Int)), rfl, hw, hf.to ⟨rfl, rfl, rfl, rfl, rfl, rfl, trivial⟩⟩
              · replace hp := cond_f hb826 hp
                refine t_rdS rfl rfl hf rfl rfl rfl fun a hf => ?_
                refine t_rdS rfl rfl hf rfl rfl rfl fun a hf => ?_
                refine t_rdS rfl rfl hf rfl rfl rfl fun a hf => ?_
                refine t_rdS rfl rfl hf rfl rfl rfl fun a hf => ?_
                refine t_rdS rfl rfl hf rfl rfl rfl fun a hf => ?_
                refine t_rdS rfl rfl hf rfl rfl rfl fun a hf => ?_
                refine t_ef rfl ?_
                refine t_skipE rfl hf rfl rfl rfl fun a hf => ⟨.inr (hw.back (IH.le_refl _) (List.Sublist.cons_cons _ (List.Sublist.cons_cons _ (List.Sublist.cons_cons _ (List.Sublist.refl _))))), ?_⟩
                refine t_rdS rfl rfl hf rfl rfl rfl fun a hf => ?_
                refine t_rd rfl hf (fun w hw => r_pickF hf rfl rfl) rfl fun a hf => ?_
                refine t_rd rfl hf (fun w hw => r_assign hf rfl) rfl fun a hf => ?_
                refine t_done ?_
                refine c_then ?_
                have ho := out_inj hp
                subst ho
                exact ⟨false, rfl, hw, hf.to ⟨rfl, rfl, rfl, rfl, rfl, rfl, trivial⟩⟩
            · intro a w hM
              obtain ⟨y822, rfl, hw, hf⟩ := hM
              replace hp := hq824
              refine c_cond hf rfl (fun hb833 => ?_) (fun hb833 => ?_)
              · replace hp := cond_t hb833 hp
                refine wp_seq ?_
                refine wp_region_lit ?_
                refine o_run hf (r_move hf rfl) rfl fun a hf => ?_
                refine o_run hf (r_fieldAddr hf rfl fd_55_1) rfl fun a hf => ?_
                refine o_run hf (r_load hw hf rfl ty_9 0 rfl rfl) rfl fun a hf => ?_
                refine o_run hf (r_lenS hf und_9 rfl) rfl fun a hf => ?_
                obtain ⟨hg834, hp⟩ := gd_some hp
                refine o_run hf (r_sliceSl hf und_9 rfl rfl hg834) rfl fun a hf => ?_
                refine o_run hf (r_assign hf rfl) rfl fun a hf => ?_
                refine o_nil ?_
                refine c_then ?_
                refine wp_region_lit ?_
                refine o_run hf (r_fieldAddr hf rfl fd_55_4) rfl fun a hf => ?_
                obtain ⟨hg835, hp⟩ := gd_some hp
                refine o_run hf (r_indexAddrA hf el_53 rfl rfl hg835) rfl fun a hf => ?_
                refine o_run hf (r_load hw hf rfl ty_3 0 rfl (arr_at (k := .i64) (v := (gt a0 y554).kids_) rfl hg835)) rfl fun a hf => ?_
                refine o_run hf (r_assign hf rfl) rfl fun a hf => ?_
                refine o_nil ?_
                refine c_blockN ?_
                refine c_then ?_
                have ho := out_inj hp
                subst ho
                exact ⟨(vg ((gt a0 y554).kids_) 0), (sub y553 (((gt a0 y554).path_).size : Int) (y553.size : Int)), rfl, hw, hf.to ⟨rfl, rfl, rfl, rfl, trivial⟩⟩
              · replace hp := cond_f hb833 hp
                obtain ⟨out839, hp, hq840⟩ := bind_some hp
                refine c_cut (fun a w => ∃ y838 : Bool, y838 = out839 ∧ Ok E I (.blk b718 (.cells ⟨Value.int .i64 ((gt a0 y554).kind_) :: Value.string ((gt a0 y554).path_) :: Value.bool ((gt a0 y554).has_) :: Value.string ((gt a0 y554).value_) :: arrC .i64 ((gt a0 y554).kids_)⟩ 55 (0, 0)) :: .row v706 3 1 1 cs709 :: .row v712 3 1 m713 cs714 :: F) w ∧ Fr 73 ([(0, a0v783), (6, Value.string y553), (7, v712), (9, Value.pointer (some ⟨b718, 0, none⟩)), (10, Value.int .i64 0), (53, Value.bool y838)]) a) ?_ ?_
                · refine wp_region_lit ?_
                  refine o_run hf (r_fieldAddr hf rfl fd_55_0) rfl fun a hf => ?_
                  refine o_run hf (r_load hw hf rfl ty_3 0 rfl rfl) rfl fun a hf => ?_
                  refine o_run hf (r_icmp hf rfl rfl rfl) rfl fun a hf => ?_
                  refine o_run hf (r_move hf rfl) rfl fun a hf => ?_
                  refine g_split hf (g := 57) rfl (fun hb841 hf => ?_) (fun hb841 hf => ?_)
                  · replace hp := cond_t hb841 hp
                    refine o_want hf (g := 57) rfl rfl ?_
                    refine o_run hf (r_move hf rfl) rfl fun a hf => ?_
                    refine o_want hf (g := 57) rfl rfl ?_
                    refine o_run hf (r_lenS hf und_9 rfl) rfl fun a hf => ?_
                    refine o_want hf (g := 57) rfl rfl ?_
                    refine o_run hf (r_icmp hf rfl rfl rfl) rfl fun a hf => ?_
                    refine o_run hf (r_pickT hf rfl rfl) rfl fun a hf => ?_
                    refine o_run hf (r_assign hf rfl) rfl fun a hf => ?_
                    refine o_nil ?_
                    refine c_then ?_
                    have ho := out_inj hp
                    subst ho
                    exact ⟨(decide ((y553.size : Int) > 0)), rfl, hw, hf.to ⟨rfl, rfl, rfl, rfl, rfl, rfl, trivial⟩⟩
                  · replace hp := cond_f hb841 hp
                    refine o_skip hf (g := 57) rfl rfl rfl rfl rfl rfl fun a hf => ?_
                    refine o_skip hf (g := 57) rfl rfl rfl rfl rfl rfl fun a hf => ?_
                    refine o_skip hf (g := 57) rfl rfl rfl rfl rfl rfl fun a hf => ?_
                    refine o_run hf (r_pickF hf rfl rfl) rfl fun a hf => ?_
                    refine o_run hf (r_assign hf rfl) rfl fun a hf => ?_
                    refine o_nil ?_
                    refine c_then ?_
                    have ho := out_inj hp
                    subst ho
                    exact ⟨false, rfl, hw, hf.to ⟨rfl, rfl, rfl, rfl, rfl, rfl, trivial⟩⟩
                · intro a w hM
                  obtain ⟨y838, rfl, hw, hf⟩ := hM
                  replace hp := hq840
                  refine c_cond hf rfl (fun hb842 => ?_) (fun hb842 => ?_)
                  · replace hp := cond_t hb842 hp
                    refine wp_seq ?_
                    refine wp_region_lit ?_
                    refine o_run hf (r_move hf rfl) rfl fun a hf => ?_
                    obtain ⟨hg843, hp⟩ := gd_some hp
                    refine o_run hf (r_indexS hf und_9 rfl rfl hg843) rfl fun a hf => ?_
                    refine o_run hf (r_fieldAddr hf rfl fd_55_4) rfl fun a hf => ?_
                    obtain ⟨hg844, hp⟩ := gd_some hp
                    refine o_run hf (r_indexAddrA hf el_53 rfl rfl hg844) rfl fun a hf => ?_
                    refine o_run hf (r_load hw hf rfl ty_3 0 rfl (arr_at (k := .i64) (v := (gt a0 y554).kids_) rfl hg844)) rfl fun a hf => ?_
                    refine o_run hf (r_assign hf rfl) rfl fun a hf => ?_
                    refine o_nil ?_
                    refine c_then ?_
                    refine wp_region_lit ?_
                    refine o_run hf (r_move hf rfl) rfl fun a hf => ?_
                    obtain ⟨hg845, hp⟩ := gd_some hp
                    refine o_run hf (r_sliceSl hf und_9 rfl rfl hg845) rfl fun a hf => ?_
                    refine o_run hf (r_assign hf rfl) rfl fun a hf => ?_
                    refine o_nil ?_
                    refine c_blockN ?_
                    refine c_then ?_
                    have ho := out_inj hp
                    subst ho
                    exact ⟨(vg ((gt a0 y554).kids_) (bt y553 0)), (sub y553 1 (y553.size : Int)), rfl, hw, hf.to ⟨rfl, rfl, rfl, rfl, trivial⟩⟩
                  · replace hp := cond_f hb842 hp
                    refine wp_skip ?_
                    refine c_blockN ?_
                    refine c_then ?_
                    have ho := out_inj hp
                    subst ho
                    exact ⟨0, y553, rfl, hw, hf.to ⟨rfl, rfl, rfl, rfl, trivial⟩⟩
          · intro a w hM
            obtain ⟨y802, y803, rfl, hw, hf⟩ := hM
            replace hp := hq805
            refine wp_seq ?_
            refine wp_seq ?_
            refine wp_region_lit ?_
            refine o_run hf (r_move hf rfl) rfl fun a hf => ?_
            refine o_run hf (r_icmp hf rfl rfl rfl) rfl fun a hf => ?_
            refine o_nil ?_
            refine c_then ?_
            refine c_cond hf rfl (fun hb846 => ?_) (fun hb846 => ?_)
            · replace hp := cond_t hb846 hp
              refine wp_exit ?_
              refine c_thenE ?_
              refine c_exitNe rfl ?_
              refine c_thenE ?_
              refine c_exit ?_
              refine c_then ?_
              have ho := out_inj hp
              subst ho
              replace hw : Ok E I (.row v712 3 1 m713 cs714 :: F) w := hw.sub (List.Sublist.cons _ (List.Sublist.cons _ (List.Sublist.cons_cons _ (List.Sublist.refl _))))
              exact ⟨(y548 ++ [y554]), v712, m713, cs714, rfl, hw, hf.to ⟨rfl, trivial⟩, hRR715⟩
            · replace hp := cond_f hb846 hp
              refine wp_skip ?_
              refine c_then ?_
              refine wp_region_lit ?_
              refine o_run hf (r_move hf rfl) rfl fun a hf => ?_
              refine o_run hf (r_assign hf rfl) rfl fun a hf => ?_
              refine o_nil ?_
              refine c_blockN ?_
              refine c_then ?_
              replace hw : Ok E I (.row v712 3 1 m713 cs714 :: F) w := hw.sub (List.Sublist.cons _ (List.Sublist.cons _ (List.Sublist.cons_cons _ (List.Sublist.refl _))))
              exact ih (y548 ++ [y554], y803, y802) _ _ ⟨v712, m713, cs714, hw, hf.to ⟨rfl, rfl, rfl, rfl, trivial⟩, hRR715⟩ hp
        · replace hp := cond_f hb705 hp
          refine wp_exit ?_
          refine c_thenE ?_
          refine c_thenE ?_
          refine c_exit ?_
          refine c_then ?_
          have ho := out_inj hp
          subst ho
          exact ⟨y548, yv549, m550, cs551, rfl, hw, hf.to ⟨rfl, trivial⟩, hRR552⟩
      · intro a w hM
        obtain ⟨y697, yv698, m699, cs700, rfl, hw, hf, hRR701⟩ := hM
        replace hp := hq703
        refine c_then ?_
        refine wp_seq ?_
        refine wp_region_lit ?_
        refine o_run hf (r_move hf rfl) rfl fun a hf => ?_
        refine o_run hf (r_assign hf rfl) rfl fun a hf => ?_
        refine o_run hf (r_assign hf rfl) rfl fun a hf => ?_
        refine o_nil ?_
        refine c_then ?_
        refine wp_ret ?_
        have hw : Ok E I (.row yv698 3 1 m699 cs700 :: F) w := hw.front (i := 0) rfl
        obtain ⟨I848, hle849, hw, hR850⟩ := row_freeze (K := (ekI .i64)) hw hRR701
        replace hG := hG.mono hle849
        have ho := out_inj hp
        simp only [Prod.mk.injEq] at ho
        obtain ⟨rfl, rfl⟩ := ho
        exact b_ret2 hf Go.Proofs.Tryd.results36 rfl rfl ⟨_, rfl, ⟨I848, yv698, rfl, hle849, hw, hR850⟩⟩

set_option maxHeartbeats 1000000 in
set_option maxRecDepth 20000 in
theorem keep_Ints_ok {E : World} {I : IH} {F : List Atom} {w : World} {a0 : List Int} {a0v1071 : Value} {a1 : List Int} {a1v1073 : Value} {res0 : Bool} (hw : Ok E I (F) w) (hG : Gl I) (hR1072 : RS (ekI .i64) I a0v1071 a0) (hR1074 : RS (ekI .i64) I a1v1073 a1) (hp : keep_Ints.f a0 a1 = some res0) :
    Calls P 37 ⟨[a0v1071, a1v1073]⟩ w fun e w' => ∃ v, e = .returned v ∧ v = Value.bool res0 ∧ Ok E I (F) w' := by
  refine c_enter Go.Proofs.Tryd.func37 rfl Go.Proofs.Tryd.ntmps37 rfl fun a hf => ?_
  replace hf : Fr 26 [(0, a0v1071), (1, a1v1073)] a := hf
  unfold keep_Ints.f at hp
  refine wp_seq ?_
  refine wp_region_lit ?_
  refine o_run hf (r_assign hf rfl) rfl fun a hf => ?_
  refine o_nil ?_
  refine c_then ?_
  refine wp_seq ?_
  refine wp_seq ?_
  refine wp_region_lit ?_
  refine o_run hf (r_move hf rfl) rfl fun a hf => ?_
  refine o_run hf (r_lenL (K := (ekI .i64)) hf el_70 rfl (hR1072.rd hw)) rfl fun a hf => ?_
  refine o_run hf (r_move hf rfl) rfl fun a hf => ?_
  refine o_run hf (r_lenL (K := (ekI .i64)) hf el_70 rfl (hR1074.rd hw)) rfl fun a hf => ?_
  refine o_run hf (r_icmp hf rfl rfl rfl) rfl fun a hf => ?_
  refine o_nil ?_
  refine c_then ?_
  refine c_cond hf rfl (fun hb1 => ?_) (fun hb1 => ?_)
  · replace hp := cond_t hb1 hp
    refine wp_seq ?_
    refine wp_region_lit ?_
    refine o_run hf (r_assign hf rfl) rfl fun a hf => ?_
    refine o_nil ?_
    refine c_then ?_
    refine wp_ret ?_
    refine c_thenR ?_
    have ho := out_inj hp
    subst ho
    exact b_ret1 hf Go.Proofs.Tryd.results37 rfl ⟨_, rfl, ⟨rfl, hw⟩⟩
  · replace hp := cond_f hb1 hp
    refine wp_skip ?_
    refine c_then ?_
    refine wp_seq ?_
    refine wp_seq ?_
    refine wp_region_lit ?_
    refine o_run hf (r_assign hf rfl) rfl fun a hf => ?_
    refine o_nil ?_
    refine c_then ?_
    obtain ⟨out19, hp, hq20⟩ := bind_some hp
    refine c_cutX (fun a w => (.inl ()) = out19 ∧ Ok E I (F) w ∧ Fr 26 ([]) a) ?_ ?_
    · refine wp_block ?_
      refine c_loop ?_
      refine c_fuel (keep_Ints.l0 a0 a1) out19 (fun (y13 : Int) a w => Ok E I (F) w ∧ Fr 26 ([(0, a0v1071), (1, a1v1073), (5, Value.int .i64 y13)]) a) (fun _ => rfl) ?_ BIG 0 _ _ ⟨hw, hf.to ⟨rfl, rfl, rfl, trivial⟩⟩ hp
      intro k y13 a w hI hp ih
      obtain ⟨hw, hf⟩ := hI
      rw [keep_Ints.l0] at hp
      refine wp_seq ?_
      refine wp_seq ?_
      refine wp_region_lit ?_
      refine o_run hf (r_move hf rfl) rfl fun a hf => ?_
      refine o_run hf (r_move hf rfl) rfl fun a hf => ?_
      refine o_run hf (r_lenL (K := (ekI .i64)) hf el_70 rfl (hR1072.rd hw)) rfl fun a hf => ?_
      refine o_run hf (r_icmp hf rfl rfl rfl) rfl fun a hf => ?_
      refine o_nil ?_
      refine c_then ?_
      refine c_cond hf rfl (fun hb22 => ?_) (fun hb22 => ?_)
      · replace hp := cond_t hb22 hp
        refine wp_skip ?_
        refine c_then ?_
        refine wp_seq ?_
        refine wp_block ?_
        refine wp_seq ?_
        refine c_drawn mix [] (.rd 0 (.rd 1 (.rd 2 (.rd 3 (.rd 4 (.rd 5 (.rd 6 (.rd 7 (.rd 8 .done))))))))) (by kernel_rfl) hw (fun w => Ok E I (F) w) (fun w hw => ⟨hw.sub (List.Sublist.refl _), ?_⟩)
        refine t_rd rfl hf (fun w hw => r_move hf rfl) rfl fun a hf => ?_
        refine t_rd rfl hf (fun w hw => r_move hf rfl) rfl fun a hf => ?_
        obtain ⟨hg24, hp⟩ := gd_some hp
        refine t_rd rfl hf (fun w hw => r_indexAddr (K := (ekI .i64)) hf el_70 rfl rfl (hR1072.rd hw) hg24) rfl fun a hf => ?_
        refine t_rd rfl hf (fun w hw => r_loadH (K := (ekI .i64)) hf rfl ty_3 (hR1072.rd hw) hg24 rfl (fun cs h => ekI_f0 h)) rfl fun a hf => ?_
        refine t_rd rfl hf (fun w hw => r_move hf rfl) rfl fun a hf => ?_
        refine t_rd rfl hf (fun w hw => r_move hf rfl) rfl fun a hf => ?_
        obtain ⟨hg25, hp⟩ := gd_some hp
        refine t_rd rfl hf (fun w hw => r_indexAddr (K := (ekI .i64)) hf el_70 rfl rfl (hR1074.rd hw) hg25) rfl fun a hf => ?_
        refine t_rd rfl hf (fun w hw => r_loadH (K := (ekI .i64)) hf rfl ty_3 (hR1074.rd hw) hg25 rfl (fun cs h => ekI_f0 h)) rfl fun a hf => ?_
        refine t_rd rfl hf (fun w hw => r_icmp hf rfl rfl rfl) rfl fun a hf => ?_
        refine t_done ?_
        refine c_then ?_
        refine c_cond hf rfl (fun hb26 => ?_) (fun hb26 => ?_)
        · replace hp := cond_t hb26 hp
          refine wp_seq ?_
          refine wp_region_lit ?_
          refine o_run hf (r_assign hf rfl) rfl fun a hf => ?_
          refine o_nil ?_
          refine c_then ?_
          refine wp_ret ?_
          refine c_blockR ?_
          refine c_thenR ?_
          refine c_thenR ?_
          refine c_blockR ?_
          refine c_thenR ?_
          have ho := out_inj hp
          subst ho
          replace hp := hq20
          refine c_thenR ?_
          have ho := out_inj hp
          subst ho
          exact b_ret1 hf Go.Proofs.Tryd.results37 rfl ⟨_, rfl, ⟨rfl, hw⟩⟩
        · replace hp := cond_f hb26 hp
          refine wp_skip ?_
          refine c_blockN ?_
          refine c_then ?_
          refine wp_region_lit ?_
          refine o_run hf (r_move hf rfl) rfl fun a hf => ?_
          refine o_run hf (r_add hf rfl rfl) rfl fun a hf => ?_
          refine o_run hf (r_assign hf rfl) rfl fun a hf => ?_
          refine o_nil ?_
          refine c_then ?_
          exact ih (w64 (y13 + 1)) _ _ ⟨hw, hf.to ⟨rfl, rfl, rfl, trivial⟩⟩ hp
      · replace hp := cond_f hb22 hp
        refine wp_exit ?_
        refine c_thenE ?_
        refine c_thenE ?_
        refine c_exit ?_
        refine c_then ?_
        have ho := out_inj hp
        subst ho
        exact ⟨rfl, hw, hf.to trivial⟩
    · intro a w hM
      obtain ⟨rfl, hw, hf⟩ := hM
      replace hp := hq20
      refine c_then ?_
      refine wp_seq ?_
      refine wp_region_lit ?_
      refine o_run hf (r_assign hf rfl) rfl fun a hf => ?_
      refine o_nil ?_
      refine c_then ?_
      refine wp_ret ?_
      have ho := out_inj hp
      subst ho
      exact b_ret1 hf Go.Proofs.Tryd.results37 rfl ⟨_, rfl, ⟨rfl, hw⟩⟩

set_option maxHeartbeats 1000000 in
set_option maxRecDepth 20000 in
theorem keep_Texts_ok {E : World} {I : IH} {F : List Atom} {w : World} {a0 : List ByteArray} {a0v42 : Value} {a1 : List ByteArray} {a1v44 : Value} {res0 : Bool} (hw : Ok E I (F) w) (hG : Gl I) (hR43 : RS ekS I a0v42 a0) (hR45 : RS ekS I a1v44 a1) (hp : keep_Texts.f a0 a1 = some res0) :
    Calls P 19 ⟨[a0v42, a1v44]⟩ w fun e w' => ∃ v, e = .returned v ∧ v = Value.bool res0 ∧ Ok E I (F) w' := by
  refine c_enter Go.Proofs.Tryd.func19 rfl Go.Proofs.Tryd.ntmps19 rfl fun a hf => ?_
  replace hf : Fr 26 [(0, a0v42), (1, a1v44)] a := hf
  unfold keep_Texts.f at hp
  refine wp_seq ?_
  refine wp_region_lit ?_
  refine o_run hf (r_assign hf rfl) rfl fun a hf => ?_
  refine o_nil ?_
  refine c_then ?_
  refine wp_seq ?_
  refine wp_seq ?_
  refine wp_region_lit ?_
  refine o_run hf (r_move hf rfl) rfl fun a hf => ?_
  refine o_run hf (r_lenL (K := ekS) hf el_28 rfl (hR43.rd hw)) rfl fun a hf => ?_
  refine o_run hf (r_move hf rfl) rfl fun a hf => ?_
  refine o_run hf (r_lenL (K := ekS) hf el_28 rfl (hR45.rd hw)) rfl fun a hf => ?_
  refine o_run hf (r_icmp hf rfl rfl rfl) rfl fun a hf => ?_
  refine o_nil ?_
  refine c_then ?_
  refine c_cond hf rfl (fun hb1 => ?_) (fun hb1 => ?_)
  · replace hp := cond_t hb1 hp
    refine wp_seq ?_
    refine wp_region_lit ?_
    refine o_run hf (r_assign hf rfl) rfl fun a hf => ?_
    refine o_nil ?_
    refine c_then ?_
    refine wp_ret ?_
    refine c_thenR ?_
    have ho := out_inj hp
    subst ho
    exact b_ret1 hf Go.Proofs.Tryd.results19 rfl ⟨_, rfl, ⟨rfl, hw⟩⟩
  · replace hp := cond_f hb1 hp
    refine wp_skip ?_
    refine c_then ?_
    refine wp_seq ?_
    refine wp_seq ?_
    refine wp_region_lit ?_
    refine o_run hf (r_assign hf rfl) rfl fun a hf => ?_
    refine o_nil ?_
    refine c_then ?_
    obtain ⟨out19, hp, hq20⟩ := bind_some hp
    refine c_cutX (fun a w => (.inl ()) = out19 ∧ Ok E I (F) w ∧ Fr 26 ([]) a) ?_ ?_
    · refine wp_block ?_
      refine c_loop ?_
      refine c_fuel (keep_Texts.l0 a0 a1) out19 (fun (y13 : Int) a w => Ok E I (F) w ∧ Fr 26 ([(0, a0v42), (1, a1v44), (5, Value.int .i64 y13)]) a) (fun _ => rfl) ?_ BIG 0 _ _ ⟨hw, hf.to ⟨rfl, rfl, rfl, trivial⟩⟩ hp
      intro k y13 a w hI hp ih
      obtain ⟨hw, hf⟩ := hI
      rw [keep_Texts.l0] at hp
      refine wp_seq ?_
      refine wp_seq ?_
      refine wp_region_lit ?_
      refine o_run hf (r_move hf rfl) rfl fun a hf => ?_
      refine o_run hf (r_move hf rfl) rfl fun a hf => ?_
      refine o_run hf (r_lenL (K := ekS) hf el_28 rfl (hR43.rd hw)) rfl fun a hf => ?_
      refine o_run hf (r_icmp hf rfl rfl rfl) rfl fun a hf => ?_
      refine o_nil ?_
      refine c_then ?_
      refine c_cond hf rfl (fun hb22 => ?_) (fun hb22 => ?_)
      · replace hp := cond_t hb22 hp
        refine wp_skip ?_
        refine c_then ?_
        refine wp_seq ?_
        refine wp_block ?_
        refine wp_seq ?_
        refine c_drawn mix [] (.rd 0 (.rd 1 (.rd 2 (.rd 3 (.rd 4 (.rd 5 (.rd 6 (.rd 7 (.rd 8 .done))))))))) (by kernel_rfl) hw (fun w => Ok E I (F) w) (fun w hw => ⟨hw.sub (List.Sublist.refl _), ?_⟩)
        refine t_rd rfl hf (fun w hw => r_move hf rfl) rfl fun a hf => ?_
        refine t_rd rfl hf (fun w hw => r_move hf rfl) rfl fun a hf => ?_
        obtain ⟨hg24, hp⟩ := gd_some hp
        refine t_rd rfl hf (fun w hw => r_indexAddr (K := ekS) hf el_28 rfl rfl (hR43.rd hw) hg24) rfl fun a hf => ?_
        refine t_rd rfl hf (fun w hw => r_loadH (K := ekS) hf rfl ty_9 (hR43.rd hw) hg24 rfl (fun cs h => ekS_f0 h)) rfl fun a hf => ?_
        refine t_rd rfl hf (fun w hw => r_move hf rfl) rfl fun a hf => ?_
        refine t_rd rfl hf (fun w hw => r_move hf rfl) rfl fun a hf => ?_
        obtain ⟨hg25, hp⟩ := gd_some hp
        refine t_rd rfl hf (fun w hw => r_indexAddr (K := ekS) hf el_28 rfl rfl (hR45.rd hw) hg25) rfl fun a hf => ?_
        refine t_rd rfl hf (fun w hw => r_loadH (K := ekS) hf rfl ty_9 (hR45.rd hw) hg25 rfl (fun cs h => ekS_f0 h)) rfl fun a hf => ?_
        refine t_rd rfl hf (fun w hw => r_scmp hf rfl rfl rfl) rfl fun a hf => ?_
        refine t_done ?_
        refine c_then ?_
        refine c_cond hf rfl (fun hb26 => ?_) (fun hb26 => ?_)
        · replace hp := cond_t hb26 hp
          refine wp_seq ?_
          refine wp_region_lit ?_
          refine o_run hf (r_assign hf rfl) rfl fun a hf => ?_
          refine o_nil ?_
          refine c_then ?_
          refine wp_ret ?_
          refine c_blockR ?_
          refine c_thenR ?_
          refine c_thenR ?_
          refine c_blockR ?_
          refine c_thenR ?_
          have ho := out_inj hp
          subst ho
          replace hp := hq20
          refine c_thenR ?_
          have ho := out_inj hp
          subst ho
          exact b_ret1 hf Go.Proofs.Tryd.results19 rfl ⟨_, rfl, ⟨rfl, hw⟩⟩
        · replace hp := cond_f hb26 hp
          refine wp_skip ?_
          refine c_blockN ?_
          refine c_then ?_
          refine wp_region_lit ?_
          refine o_run hf (r_move hf rfl) rfl fun a hf => ?_
          refine o_run hf (r_add hf rfl rfl) rfl fun a hf => ?_
          refine o_run hf (r_assign hf rfl) rfl fun a hf => ?_
          refine o_nil ?_
          refine c_then ?_
          exact ih (w64 (y13 + 1)) _ _ ⟨hw, hf.to ⟨rfl, rfl, rfl, trivial⟩⟩ hp
      · replace hp := cond_f hb22 hp
        refine wp_exit ?_
        refine c_thenE ?_
        refine c_thenE ?_
        refine c_exit ?_
        refine c_then ?_
        have ho := out_inj hp
        subst ho
        exact ⟨rfl, hw, hf.to trivial⟩
    · intro a w hM
      obtain ⟨rfl, hw, hf⟩ := hM
      replace hp := hq20
      refine c_then ?_
      refine wp_seq ?_
      refine wp_region_lit ?_
      refine o_run hf (r_assign hf rfl) rfl fun a hf => ?_
      refine o_nil ?_
      refine c_then ?_
      refine wp_ret ?_
      have ho := out_inj hp
      subst ho
      exact b_ret1 hf Go.Proofs.Tryd.results19 rfl ⟨_, rfl, ⟨rfl, hw⟩⟩
end Go.Lf
