import Derived.Test.YtckhmgglgbnaaaaGreatDoorZD
import Derived.Test.YtckhmgglgbnaaaaGreatDoorZF
import Derived.Test.YtckhmgglgbnaaaaGreatDoorJ
import Derived.Test.YtckhmgglgbnaaaaGreatDoorUB
import Derived.Test.YtckhmgglgbnaaaaGreatDoorZK0
import Derived.Test.YtckhmgglgbnaaaaGreatDoorZK3
import Derived.Test.YtckhmgglgbnaaaaGreatDoorZK7
import Derived.Test.YtckhmgglgbnaaaaGreatDoorZK9
set_option linter.unusedVariables false
set_option linter.unusedSimpArgs false
set_option maxHeartbeats 1000000
set_option maxRecDepth 20000
namespace Go.Lf
open Go Go.Proofs.Tryz
theorem ref12_Walk_ok {E : World} {I : IH} {F : List Atom} {w : World} {a0 : List Node} {a0v1 : Value} {a1 : ByteArray} {res0 : List Int} {res1 : Int} (hw : Ok E I (F) w) (hG : Gl I) (hR2 : RS ek_Node I a0v1 a0) (hp : ref12_Walk.f a0 a1 = some (res0, res1)) :
  Calls P 58 ⟨[a0v1, Value.string a1]⟩ w fun e w' => ∃ v, e = .returned v ∧ ∃ I2 : IH, ∃ rvv177 : Value, v = Value.tuple ⟨[rvv177, Value.int .i64 res1]⟩ ∧ IH.le I I2 ∧ Ok E I2 (F) w' ∧ RS (ekI .i64) I2 rvv177 res0 := by
 refine c_enter func58 rfl ntmps58 rfl fun a hf => ?_
 replace hf : Fr 73 [(0, a0v1), (1, .string a1)] a := hf
 unfold ref12_Walk.f at hp
 refine wq <| wr <| oa hf rfl rfl fun a hf => oa hf rfl rfl fun a hf => oN <| ct <| wq <| wq <| wr <| om hf rfl rfl fun a hf => ?_
 obtain ⟨y1, hy2, hp⟩ := bS hp
 have hc4 := ref10_Good_ok hw hG hR2 hy2
 refine o_call hf cb_72 rfl rfl hc4 (fun v6 w a hK5 hf => ?_)
 obtain ⟨rfl, hw⟩ := hK5
 refine oR hf (r_not hf rfl) rfl fun a hf => oN <| ct <| cC hf rfl (fun hb7 => ?_) (fun hb7 => ?_)
 ·replace hp := cond_t hb7 hp
  refine wq <| wr <| oa hf rfl rfl fun a hf => oa hf rfl rfl fun a hf => oN <| ct <| wp_ret <| c_thenR ?_
  have ho := oI hp
  simp only [Prod.mk.injEq] at ho
  obtain ⟨rfl, rfl⟩ := ho
  exact b_ret2 hf results58 rfl rfl ⟨_, rfl, ⟨I, (Value.slice none 0 0), rfl, (IH.le_refl _), hw, RS.nil⟩⟩
 ·replace hp := cond_f hb7 hp
  refine wp_skip <| ct <| wq <| wq <| wr <| om hf rfl rfl fun a hf => ?_
  obtain ⟨y8, hy9, hp⟩ := bS hp
  have hc11 := ref12_Key_ok hw hG hy9
  refine o_call hf cb_9 rfl rfl hc11 (fun v13 w a hK12 hf => ?_)
  obtain ⟨rfl, hw⟩ := hK12
  refine oR hf (r_not hf rfl) rfl fun a hf => oN <| ct <| cC hf rfl (fun hb14 => ?_) (fun hb14 => ?_)
  ·replace hp := cond_t hb14 hp
   refine wq <| wr <| oa hf rfl rfl fun a hf => oa hf rfl rfl fun a hf => oN <| ct <| wp_ret <| c_thenR ?_
   have ho := oI hp
   simp only [Prod.mk.injEq] at ho
   obtain ⟨rfl, rfl⟩ := ho
   exact b_ret2 hf results58 rfl rfl ⟨_, rfl, ⟨I, (Value.slice none 0 0), rfl, (IH.le_refl _), hw, RS.nil⟩⟩
  ·replace hp := cond_f hb14 hp
   refine wp_skip <| ct <| wq <| wr <| om hf rfl rfl fun a hf => ?_
   obtain ⟨y15, hy16, hp⟩ := bS hp
   have hc18 := ref02_Of_ok hw hG hy16
   refine o_call hf cb_31 rfl rfl hc18 (fun v20 w a hK19 hf => ?_)
   obtain ⟨rfl, hw⟩ := hK19
   refine oa hf rfl rfl fun a hf => oN <| ct <| wq <| wr <| oa hf rfl rfl fun a hf => oN <| ct <| wq <| wq <| wr <| oa hf rfl rfl fun a hf => oN <| ct ?_
   replace hw := hw.nilrow 3 1
   have hRR166 : RowR (ekI .i64) I [] [] := RowR.nil
   obtain ⟨out612, hp, hq613⟩ := bS hp
   refine c_cutX (fun a w => ∃ y607 : List Int, ∃ yv608 : Value, ∃ m609 : Nat, ∃ cs610 : List Value, y607 = out612 ∧ Ok E I (.row yv608 3 1 m609 cs610 :: F) w ∧ Fr 73 ([(7, yv608)]) a ∧ RowR (ekI .i64) I cs610 y607) ?_ ?_
   ·refine wp_block <| c_loop <| c_fuel (ref12_Walk.l0 a0) out612 (fun (y458, y463, y464) a w => ∃ yv459 : Value, ∃ m460 : Nat, ∃ cs461 : List Value, Ok E I (.row yv459 3 1 m460 cs461 :: F) w ∧ Fr 73 ([(0, a0v1), (6, .string y463), (7, yv459), (8, .int .i64 y464)]) a ∧ RowR (ekI .i64) I cs461 y458) (fun _ => rfl) ?_ BIG (([] : List Int), y15, 0) _ _ ⟨(.slice none 0 0), 0, [], hw, hf.to ⟨rfl, rfl, rfl, rfl, trivial⟩, hRR166⟩ hp
    intro k st a w hI hp ih
    obtain ⟨y458, y463, y464⟩ := st
    obtain ⟨yv459, m460, cs461, hw, hf, hRR462⟩ := hI
    rw [ref12_Walk.l0] at hp
    refine wq <| wq <| wr <| om hf rfl rfl fun a hf => om hf rfl rfl fun a hf => oR hf (r_lenL (K := ek_Node) hf el_27 rfl (hR2.rd hw)) rfl fun a hf => oR hf (iC hf rfl rfl rfl) rfl fun a hf => oN <| ct <| cC hf rfl (fun hb615 => ?_) (fun hb615 => ?_)
    ·replace hp := cond_t hb615 hp
     refine wp_skip <| ct <| wp_block <| wq <| wr <| om hf rfl rfl fun a hf => om hf rfl rfl fun a hf => ?_
     obtain ⟨w, v616, hrun617, hw, hRR618⟩ := e_buildSlice (P := P) (K := (ekI .i64)) (m := 1) hw hf (parts := [(0, .tmp 24)]) el_55 ty_3 rfl rfl rfl (ccs := [[Value.int .i64 y464]]) rfl (xs := [y464]) ⟨rfl, trivial⟩ rfl
     obtain ⟨cs619, hcs⟩ : ∃ cs, cs = ([[Value.int .i64 y464]] : List (List Value)).flatten := ⟨_, rfl⟩
     rw [← hcs] at hw hRR618; clear hcs
     refine o_eff hf (hrun617 ..) rfl fun a hf => ?_
     obtain ⟨hg621, hp⟩ := gS hp
     obtain ⟨w, v622, m623, cs624, hrun626, hw, hRR625⟩ := e_append (P := P) (K := (ekI .i64)) (ty := 55) hw hf (s := .tmp 23) (x := .tmp 25) el_55 ty_3 rfl (by decide) 1 rfl rfl rfl hRR462 (ys := [y464]) (rR (K := (ekI .i64)) hw (i := 0) rfl hRR618) hg621
     replace hw : Ok E I (.row v616 3 1 1 cs619 :: .row v622 3 1 m623 cs624 :: F) w := hw
     refine o_eff hf (hrun626 ..) rfl fun a hf => oa hf rfl rfl fun a hf => oN <| ct <| wq <| wr <| om hf rfl rfl fun a hf => om hf rfl rfl fun a hf => ?_
     obtain ⟨hg627, hp⟩ := gS hp
     refine oR hf (rI (K := ek_Node) hf el_27 rfl rfl (hR2.rd hw) hg627) rfl fun a hf => oR hf (r_loadHP (K := ek_Node) hf rfl ty_106 (hR2.rd hw) hg627 rfl (vs := (.int .i64 ((gt a0 y464).kind_) :: .string ((gt a0 y464).path_) :: .bool ((gt a0 y464).has_) :: .string ((gt a0 y464).value_) :: arrC .i64 ((gt a0 y464).kids_))) (fun cs h => Node_all h) (by simp [arrC_len])) rfl fun a hf => ?_
     obtain ⟨b628, w, hrun629, hw⟩ := e_alloc (P := P) (a := a) hw ty_106
     refine o_eff hf (hrun629 ..) rfl fun a hf => ?_
     obtain ⟨w, hrun631, hw⟩ := e_store (P := P) hw hf (x := .tmp 9) (y := .tmp 30) rfl rfl ty_106 0 rfl (vs := (.int .i64 ((gt a0 y464).kind_) :: .string ((gt a0 y464).path_) :: .bool ((gt a0 y464).has_) :: .string ((gt a0 y464).value_) :: arrC .i64 ((gt a0 y464).kids_))) rfl (by simp [arrC_len]) (oC rfl (oC rfl (oC rfl (oC rfl (arrC_one _ _))))) (by simp [arrC_len]) (cs' := (.int .i64 ((gt a0 y464).kind_) :: .string ((gt a0 y464).path_) :: .bool ((gt a0 y464).has_) :: .string ((gt a0 y464).value_) :: arrC .i64 ((gt a0 y464).kids_))) (by simp [arrC_len])
     dsimp only [List.set] at hw
     refine o_effU (hrun631 ..) <| oN <| ct <| wq <| wr <| oa hf rfl rfl fun a hf => oN <| ct ?_
     obtain ⟨out714, hp, hq715⟩ := bS hp
     refine c_cut (fun a w => ∃ y712 : Int, ∃ y713 : ByteArray, (y712, y713) = out714 ∧ Ok E I (.blk b628 (.cells ⟨.int .i64 ((gt a0 y464).kind_) :: .string ((gt a0 y464).path_) :: .bool ((gt a0 y464).has_) :: .string ((gt a0 y464).value_) :: arrC .i64 ((gt a0 y464).kids_)⟩ 106 (0, 0)) :: .row v616 3 1 1 cs619 :: .row v622 3 1 m623 cs624 :: F) w ∧ Fr 73 ([(0, a0v1), (6, .string y713), (7, v622), (10, .int .i64 y712)]) a) ?_ ?_
     ·refine wp_block ?_
      obtain ⟨out733, hp, hq734⟩ := bS hp
      refine c_cut (fun a w => ∃ y732 : Bool, y732 = out733 ∧ Ok E I (.blk b628 (.cells ⟨.int .i64 ((gt a0 y464).kind_) :: .string ((gt a0 y464).path_) :: .bool ((gt a0 y464).has_) :: .string ((gt a0 y464).value_) :: arrC .i64 ((gt a0 y464).kids_)⟩ 106 (0, 0)) :: .row v616 3 1 1 cs619 :: .row v622 3 1 m623 cs624 :: F) w ∧ Fr 73 ([(0, a0v1), (6, .string y463), (7, v622), (9, .pointer (some ⟨b628, 0, none⟩)), (10, .int .i64 0), (31, .bool y732)]) a) ?_ ?_
      ·refine c_drawn mix [] (.rd 0 (.rd 1 (.rd 2 (.rd 3 (.rd 4 (.rd 5 (.rd 6 (.rd 8 (.rd 9 (.rd 10 (.ef 7 (.rd 11 (.rd 12 (.rd 13 .done)))))))))))))) (by kernel_rfl) hw (fun w => Ok E I (.blk b628 (.cells ⟨.int .i64 ((gt a0 y464).kind_) :: .string ((gt a0 y464).path_) :: .bool ((gt a0 y464).has_) :: .string ((gt a0 y464).value_) :: arrC .i64 ((gt a0 y464).kids_)⟩ 106 (0, 0)) :: .row v616 3 1 1 cs619 :: .row v622 3 1 m623 cs624 :: F) w) (fun w hw => ⟨hw.sub (scc (scc (scc sr))), ?_⟩)
       refine tR rfl hf (fun w hw => rF hf rfl fd_106_0) rfl fun a hf => tR rfl hf (fun w hw => rL hw hf rfl ty_3 0 rfl rfl) rfl fun a hf => tR rfl hf (fun w hw => iC hf rfl rfl rfl) rfl fun a hf => tm rfl hf rfl rfl fun a hf => g_split hf (g := 35) rfl (fun hb736 hf => ?_) (fun hb736 hf => ?_)
       ·replace hp := cond_t hb736 hp
        refine tG rfl rfl hf rfl (fun w hw => r_move hf rfl) rfl fun a hf => tG rfl rfl hf rfl (fun w hw => rF hf rfl fd_106_1) rfl fun a hf => tG rfl rfl hf rfl (fun w hw => rL hw hf rfl ty_9 0 rfl rfl) rfl fun a hf => tG rfl rfl hf rfl (fun w hw => rF hf rfl fd_106_1) rfl fun a hf => tG rfl rfl hf rfl (fun w hw => rL hw hf rfl ty_9 0 rfl rfl) rfl fun a hf => tG rfl rfl hf rfl (fun w hw => r_lenS hf und_9 rfl) rfl fun a hf => t_ef rfl ?_
        obtain ⟨y737, hy738, hp⟩ := bS hp
        have hc740 := ref02_Common_ok hw hG hy738
        refine t_callG rfl hf rfl cb_61 rfl rfl hc740 (fun v742 w a hK741 hf => ?_)
        obtain ⟨rfl, hw⟩ := hK741
        refine ⟨.inr (hw.back (IH.le_refl _) (scc (scc (scc sr)))), ?_⟩
        refine tG rfl rfl hf rfl (fun w hw => iC hf rfl rfl rfl) rfl fun a hf => tR rfl hf (fun w hw => pT hf rfl rfl) rfl fun a hf => tR rfl hf (fun w hw => r_assign hf rfl) rfl fun a hf => t_done <| ct ?_
        have ho := oI hp
        subst ho
        exact ⟨(y737 == (((gt a0 y464).path_).size : Int)), rfl, hw, hf.to ⟨rfl, rfl, rfl, rfl, rfl, rfl, trivial⟩⟩
       ·replace hp := cond_f hb736 hp
        refine tS rfl rfl hf rfl rfl rfl fun a hf => tS rfl rfl hf rfl rfl rfl fun a hf => tS rfl rfl hf rfl rfl rfl fun a hf => tS rfl rfl hf rfl rfl rfl fun a hf => tS rfl rfl hf rfl rfl rfl fun a hf => tS rfl rfl hf rfl rfl rfl fun a hf => t_ef rfl <| t_skipE rfl hf rfl rfl rfl fun a hf => ⟨.inr (hw.back (IH.le_refl _) (scc (scc (scc sr)))), ?_⟩
        refine tS rfl rfl hf rfl rfl rfl fun a hf => tR rfl hf (fun w hw => pF hf rfl rfl) rfl fun a hf => tR rfl hf (fun w hw => r_assign hf rfl) rfl fun a hf => t_done <| ct ?_
        have ho := oI hp
        subst ho
        exact ⟨false, rfl, hw, hf.to ⟨rfl, rfl, rfl, rfl, rfl, rfl, trivial⟩⟩
      ·intro a w hM
       obtain ⟨y732, rfl, hw, hf⟩ := hM
       replace hp := hq734
       refine cC hf rfl (fun hb743 => ?_) (fun hb743 => ?_)
       ·replace hp := cond_t hb743 hp
        refine wq <| wr <| om hf rfl rfl fun a hf => oR hf (rF hf rfl fd_106_1) rfl fun a hf => oR hf (rL hw hf rfl ty_9 0 rfl rfl) rfl fun a hf => oR hf (r_lenS hf und_9 rfl) rfl fun a hf => ?_
        obtain ⟨hg744, hp⟩ := gS hp
        refine oR hf (r_sliceSl hf und_9 rfl rfl hg744) rfl fun a hf => oa hf rfl rfl fun a hf => oN <| ct <| wr <| oR hf (rF hf rfl fd_106_4) rfl fun a hf => ?_
        obtain ⟨hg745, hp⟩ := gS hp
        refine oR hf (r_indexAddrA hf el_104 rfl rfl hg745) rfl fun a hf => oR hf (rL hw hf rfl ty_3 0 rfl (arr_at (k := .i64) (v := (gt a0 y464).kids_) rfl hg745)) rfl fun a hf => oa hf rfl rfl fun a hf => oN <| c_blockN <| ct ?_
        have ho := oI hp
        subst ho
        exact ⟨(vg ((gt a0 y464).kids_) 0), (sub y463 (((gt a0 y464).path_).size : Int) (y463.size : Int)), rfl, hw, hf.to ⟨rfl, rfl, rfl, rfl, trivial⟩⟩
       ·replace hp := cond_f hb743 hp
        obtain ⟨out749, hp, hq750⟩ := bS hp
        refine c_cut (fun a w => ∃ y748 : Bool, y748 = out749 ∧ Ok E I (.blk b628 (.cells ⟨.int .i64 ((gt a0 y464).kind_) :: .string ((gt a0 y464).path_) :: .bool ((gt a0 y464).has_) :: .string ((gt a0 y464).value_) :: arrC .i64 ((gt a0 y464).kids_)⟩ 106 (0, 0)) :: .row v616 3 1 1 cs619 :: .row v622 3 1 m623 cs624 :: F) w ∧ Fr 73 ([(0, a0v1), (6, .string y463), (7, v622), (9, .pointer (some ⟨b628, 0, none⟩)), (10, .int .i64 0), (53, .bool y748)]) a) ?_ ?_
        ·refine wr <| oR hf (rF hf rfl fd_106_0) rfl fun a hf => oR hf (rL hw hf rfl ty_3 0 rfl rfl) rfl fun a hf => oR hf (iC hf rfl rfl rfl) rfl fun a hf => om hf rfl rfl fun a hf => g_split hf (g := 57) rfl (fun hb751 hf => ?_) (fun hb751 hf => ?_)
         ·replace hp := cond_t hb751 hp
          refine oW hf (g := 57) rfl rfl <| om hf rfl rfl fun a hf => oW hf (g := 57) rfl rfl <| oR hf (r_lenS hf und_9 rfl) rfl fun a hf => oW hf (g := 57) rfl rfl <| oR hf (iC hf rfl rfl rfl) rfl fun a hf => oR hf (pT hf rfl rfl) rfl fun a hf => oa hf rfl rfl fun a hf => oN <| ct ?_
          have ho := oI hp
          subst ho
          exact ⟨(decide ((y463.size : Int) > 0)), rfl, hw, hf.to ⟨rfl, rfl, rfl, rfl, rfl, rfl, trivial⟩⟩
         ·replace hp := cond_f hb751 hp
          refine oQ hf (g := 57) rfl fun a hf => oQ hf (g := 57) rfl fun a hf => oQ hf (g := 57) rfl fun a hf => oR hf (pF hf rfl rfl) rfl fun a hf => oa hf rfl rfl fun a hf => oN <| ct ?_
          have ho := oI hp
          subst ho
          exact ⟨false, rfl, hw, hf.to ⟨rfl, rfl, rfl, rfl, rfl, rfl, trivial⟩⟩
        ·intro a w hM
         obtain ⟨y748, rfl, hw, hf⟩ := hM
         replace hp := hq750
         refine cC hf rfl (fun hb752 => ?_) (fun hb752 => ?_)
         ·replace hp := cond_t hb752 hp
          refine wq <| wr <| om hf rfl rfl fun a hf => ?_
          obtain ⟨hg753, hp⟩ := gS hp
          refine oR hf (r_indexS hf und_9 rfl rfl hg753) rfl fun a hf => oR hf (rF hf rfl fd_106_4) rfl fun a hf => ?_
          obtain ⟨hg754, hp⟩ := gS hp
          refine oR hf (r_indexAddrA hf el_104 rfl rfl hg754) rfl fun a hf => oR hf (rL hw hf rfl ty_3 0 rfl (arr_at (k := .i64) (v := (gt a0 y464).kids_) rfl hg754)) rfl fun a hf => oa hf rfl rfl fun a hf => oN <| ct <| wr <| om hf rfl rfl fun a hf => ?_
          obtain ⟨hg755, hp⟩ := gS hp
          refine oR hf (r_sliceSl hf und_9 rfl rfl hg755) rfl fun a hf => oa hf rfl rfl fun a hf => oN <| c_blockN <| ct ?_
          have ho := oI hp
          subst ho
          exact ⟨(vg ((gt a0 y464).kids_) (bt y463 0)), (sub y463 1 (y463.size : Int)), rfl, hw, hf.to ⟨rfl, rfl, rfl, rfl, trivial⟩⟩
         ·replace hp := cond_f hb752 hp
          refine wp_skip <| c_blockN <| ct ?_
          have ho := oI hp
          subst ho
          exact ⟨0, y463, rfl, hw, hf.to ⟨rfl, rfl, rfl, rfl, trivial⟩⟩
     ·intro a w hM
      obtain ⟨y712, y713, rfl, hw, hf⟩ := hM
      replace hp := hq715
      refine wq <| wq <| wr <| om hf rfl rfl fun a hf => oR hf (iC hf rfl rfl rfl) rfl fun a hf => oN <| ct <| cC hf rfl (fun hb756 => ?_) (fun hb756 => ?_)
      ·replace hp := cond_t hb756 hp
       refine wp_exit <| c_thenE <| c_exitNe rfl <| c_thenE <| c_exit <| ct ?_
       have ho := oI hp
       subst ho
       replace hw : Ok E I (.row v622 3 1 m623 cs624 :: F) w := hw.sub (sc (sc (scc sr)))
       exact ⟨(y458 ++ [y464]), v622, m623, cs624, rfl, hw, hf.to ⟨rfl, trivial⟩, hRR625⟩
      ·replace hp := cond_f hb756 hp
       refine wp_skip <| ct <| wr <| om hf rfl rfl fun a hf => oa hf rfl rfl fun a hf => oN <| c_blockN <| ct ?_
       replace hw : Ok E I (.row v622 3 1 m623 cs624 :: F) w := hw.sub (sc (sc (scc sr)))
       exact ih (y458 ++ [y464], y713, y712) _ _ ⟨v622, m623, cs624, hw, hf.to ⟨rfl, rfl, rfl, rfl, trivial⟩, hRR625⟩ hp
    ·replace hp := cond_f hb615 hp
     refine wp_exit <| c_thenE <| c_thenE <| c_exit <| ct ?_
     have ho := oI hp
     subst ho
     exact ⟨y458, yv459, m460, cs461, rfl, hw, hf.to ⟨rfl, trivial⟩, hRR462⟩
   ·intro a w hM
    obtain ⟨y607, yv608, m609, cs610, rfl, hw, hf, hRR611⟩ := hM
    replace hp := hq613
    refine ct <| wq <| wr <| om hf rfl rfl fun a hf => oa hf rfl rfl fun a hf => oa hf rfl rfl fun a hf => oN <| ct <| wp_ret ?_
    have hw : Ok E I (.row yv608 3 1 m609 cs610 :: F) w := hw.front (i := 0) rfl
    obtain ⟨I758, hle759, hw, hR760⟩ := row_freeze (K := (ekI .i64)) hw hRR611
    replace hG := hG.mono hle759
    have ho := oI hp
    simp only [Prod.mk.injEq] at ho
    obtain ⟨rfl, rfl⟩ := ho
    exact b_ret2 hf results58 rfl rfl ⟨_, rfl, ⟨I758, yv608, rfl, hle759, hw, hR760⟩⟩

theorem ref16_Of_ok {E : World} {I : IH} {F : List Atom} {w : World} {a0 : List Node} {a0v38 : Value} {a1 : ByteArray} {res0 : List ByteArray} {res1 : Int} (hw : Ok E I (F) w) (hG : Gl I) (hR39 : RS ek_Node I a0v38 a0) (hp : ref16_Of.f a0 a1 = some (res0, res1)) :
  Calls P 29 ⟨[a0v38, Value.string a1]⟩ w fun e w' => ∃ v, e = .returned v ∧ ∃ I2 : IH, ∃ rvv179 : Value, v = Value.tuple ⟨[rvv179, Value.int .i64 res1]⟩ ∧ IH.le I I2 ∧ Ok E I2 (F) w' ∧ RS ekS I2 rvv179 res0 := by
 refine c_enter func29 rfl ntmps29 rfl fun a hf => ?_
 replace hf : Fr 42 [(0, a0v38), (1, .string a1)] a := hf
 unfold ref16_Of.f at hp
 refine wq <| wr <| oa hf rfl rfl fun a hf => oa hf rfl rfl fun a hf => oN <| ct <| wq <| wr <| om hf rfl rfl fun a hf => om hf rfl rfl fun a hf => ?_
 obtain ⟨y764, hy763, hp⟩ := bS hp
 obtain ⟨y761, y762⟩ := y764
 have hc765 := ref12_Walk_ok hw hG hR39 hy763
 refine o_call hf cb_58 rfl rfl hc765 (fun v769 w a hK766 hf => ?_)
 obtain ⟨I2_766, rvv767, rfl, hle770, hw, hR768⟩ := hK766
 replace hG := hG.mono hle770
 replace hR39 := hR39.mono hle770
 refine om hf rfl rfl fun a hf => oR hf (rE hf rfl rfl) rfl fun a hf => oR hf (rE hf rfl rfl) rfl fun a hf => oa hf rfl rfl fun a hf => oa hf rfl rfl fun a hf => oN <| ct <| wq <| wq <| wr <| om hf rfl rfl fun a hf => oR hf (iC hf rfl rfl rfl) rfl fun a hf => oN <| ct <| cC hf rfl (fun hb771 => ?_) (fun hb771 => ?_)
 ·replace hp := cond_t hb771 hp
  refine wq <| wr <| om hf rfl rfl fun a hf => oa hf rfl rfl fun a hf => oa hf rfl rfl fun a hf => oN <| ct <| wp_ret <| c_thenR ?_
  have ho := oI hp
  simp only [Prod.mk.injEq] at ho
  obtain ⟨rfl, rfl⟩ := ho
  exact b_ret2 hf results29 rfl rfl ⟨_, rfl, ⟨I2_766, (Value.slice none 0 0), rfl, hle770, hw, RS.nil⟩⟩
 ·replace hp := cond_f hb771 hp
  refine wp_skip <| ct <| wq <| wr <| om hf rfl rfl fun a hf => ?_
  obtain ⟨y772, hy773, hp⟩ := bS hp
  have hc775 := ref11_Of_ok hw hG hR39 hy773
  refine o_call hf cb_39 rfl rfl hc775 (fun v781 w a hK776 hf => ?_)
  obtain ⟨I2_776, rvv777, rvv779, rfl, hle782, hw, hR778, hR780⟩ := hK776
  replace hG := hG.mono hle782
  replace hR39 := hR39.mono hle782
  replace hR768 := hR768.mono hle782
  obtain ⟨b783, w, hrun784, hw⟩ := e_alloc (P := P) (a := a) hw ty_97
  replace hw : Ok E I2_776 (.blk b783 (.cells ⟨[.slice none 0 0, .slice none 0 0, .bool false]⟩ 97 (0, 0)) :: F) w := hw
  refine o_eff hf (hrun784 ..) rfl fun a hf => ?_
  obtain ⟨w, hrun786, hw⟩ := e_store (P := P) hw hf (x := .tmp 8) (y := .tmp 21) rfl rfl ty_97 0 rfl (vs := [rvv777, rvv779, .bool y772.ok_]) rfl rfl (oC hR778.one (oC hR780.one (oC rfl ones_nil))) (by simp [arrC_len]) (cs' := [rvv777, rvv779, .bool y772.ok_]) rfl
  replace hw : Ok E I2_776 (.blk b783 (.cells ⟨[rvv777, rvv779, .bool y772.ok_]⟩ 97 (0, 0)) :: F) w := hw
  refine o_effU (hrun786 ..) <| oN <| ct <| wq <| wr <| oa hf rfl rfl fun a hf => oN <| ct <| wq <| wq <| wr <| oa hf rfl rfl fun a hf => oN <| ct ?_
  replace hw := hw.nilrow 9 1
  have hRR815 : RowR ekS I2_776 [] [] := RowR.nil
  obtain ⟨out908, hp, hq909⟩ := bS hp
  refine c_cutX (fun a w => ∃ y903 : List ByteArray, ∃ yv904 : Value, ∃ m905 : Nat, ∃ cs906 : List Value, y903 = out908 ∧ Ok E I2_776 (.row yv904 9 1 m905 cs906 :: .blk b783 (.cells ⟨[rvv777, rvv779, .bool y772.ok_]⟩ 97 (0, 0)) :: F) w ∧ Fr 42 ([(7, .int .i64 y762), (9, yv904)]) a ∧ RowR ekS I2_776 cs906 y903) ?_ ?_
  ·refine wp_block <| c_loop <| c_fuel (ref16_Of.l0 y761 y772) out908 (fun (y872, y877) a w => ∃ yv873 : Value, ∃ m874 : Nat, ∃ cs875 : List Value, Ok E I2_776 (.row yv873 9 1 m874 cs875 :: .blk b783 (.cells ⟨[rvv777, rvv779, .bool y772.ok_]⟩ 97 (0, 0)) :: F) w ∧ Fr 42 ([(6, rvv767), (7, .int .i64 y762), (8, .pointer (some ⟨b783, 0, none⟩)), (9, yv873), (10, .int .i64 y877)]) a ∧ RowR ekS I2_776 cs875 y872) (fun _ => rfl) ?_ BIG (([] : List ByteArray), 0) _ _ ⟨(.slice none 0 0), 0, [], hw, hf.to ⟨rfl, rfl, rfl, rfl, rfl, trivial⟩, hRR815⟩ hp
   intro k st a w hI hp ih
   obtain ⟨y872, y877⟩ := st
   obtain ⟨yv873, m874, cs875, hw, hf, hRR876⟩ := hI
   rw [ref16_Of.l0] at hp
   refine wq <| wq <| wr <| om hf rfl rfl fun a hf => om hf rfl rfl fun a hf => oR hf (r_lenL (K := (ekI .i64)) hf el_55 rfl (hR768.rd hw)) rfl fun a hf => oR hf (iC hf rfl rfl rfl) rfl fun a hf => oN <| ct <| cC hf rfl (fun hb911 => ?_) (fun hb911 => ?_)
   ·replace hp := cond_t hb911 hp
    refine wp_skip <| ct <| wq <| wp_block <| c_drawn mix [] (.rd 0 (.rd 1 (.rd 2 (.rd 3 (.rd 4 (.rd 5 (.rd 6 (.rd 7 (.rd 8 (.ef 9 (.ef 10 (.ef 11 (.rd 12 .done))))))))))))) (by kernel_rfl) hw (fun w => Ok E I2_776 (.blk b783 (.cells ⟨[rvv777, rvv779, .bool y772.ok_]⟩ 97 (0, 0)) :: F) w) (fun w hw => ⟨hw.sub (sc (scc sr)), ?_⟩)
    refine tm rfl hf rfl rfl fun a hf => tR rfl hf (fun w hw => rF hf rfl fd_97_0) rfl fun a hf => tR rfl hf (fun w hw => rL hw hf rfl ty_95 0 rfl rfl) rfl fun a hf => tm rfl hf rfl rfl fun a hf => tm rfl hf rfl rfl fun a hf => ?_
    obtain ⟨hg913, hp⟩ := gS hp
    refine tR rfl hf (fun w hw => rI (K := (ekI .i64)) hf el_55 rfl rfl (hR768.rd hw) hg913) rfl fun a hf => tR rfl hf (fun w hw => r_loadH (K := (ekI .i64)) hf rfl ty_3 (hR768.rd hw) hg913 rfl (fun cs h => ekI_f0 h)) rfl fun a hf => ?_
    obtain ⟨hg914, hp⟩ := gS hp
    refine tR rfl hf (fun w hw => rI (K := ek_Item) hf el_95 rfl rfl (hR778.rd hw) hg914) rfl fun a hf => ?_
    obtain ⟨_, ⟨vv915, rfl, hR916⟩, hrun918⟩ := rs_loadHA (P := P) ty_86 hR778 hg914 rfl (fun cs h => Item_all h)
    refine tR rfl hf (fun w hw => hrun918 _ _ _ _ _ _ _ _ _ _ _ _ hw hf rfl) rfl fun a hf => t_ef rfl ?_
    obtain ⟨y919, hy920, hp⟩ := bS hp
    have hc922 := ref09_Encode_ok hw hG hR916 hy920
    refine t_call hf cb_59 rfl rfl hc922 (fun v924 w a hK923 hf => ?_)
    obtain ⟨rfl, hw⟩ := hK923
    refine ⟨.inr (hw.back (IH.le_refl _) (sc (scc sr))), ?_⟩
    refine t_ef rfl ?_
    obtain ⟨w, v925, hrun926, hw, hRR927⟩ := e_buildSlice (P := P) (K := ekS) (m := 1) hw hf (parts := [(0, .tmp 37)]) el_28 ty_9 rfl rfl rfl (ccs := [[Value.string y919]]) rfl (xs := [y919]) ⟨rfl, trivial⟩ rfl
    obtain ⟨cs928, hcs⟩ : ∃ cs, cs = ([[Value.string y919]] : List (List Value)).flatten := ⟨_, rfl⟩
    rw [← hcs] at hw hRR927; clear hcs
    refine t_eff hf (hrun926 ..) rfl fun a hf => ⟨.inr (hw.back (IH.le_refl _) (sc (sc (scc sr)))), ?_⟩
    refine t_ef rfl ?_
    obtain ⟨hg930, hp⟩ := gS hp
    obtain ⟨w, v931, m932, cs933, hrun935, hw, hRR934⟩ := e_append (P := P) (K := ekS) (ty := 28) hw hf (s := .tmp 28) (x := .tmp 38) el_28 ty_9 rfl (by decide) 1 rfl rfl rfl hRR876 (ys := [y919]) (rR (K := ekS) hw (i := 0) rfl hRR927) hg930
    replace hw : Ok E I2_776 (.row v925 9 1 1 cs928 :: .row v931 9 1 m932 cs933 :: .blk b783 (.cells ⟨[rvv777, rvv779, .bool y772.ok_]⟩ 97 (0, 0)) :: F) w := hw
    refine t_eff hf (hrun935 ..) rfl fun a hf => ⟨.inr (hw.back (IH.le_refl _) (sc (sc (scc sr)))), ?_⟩
    refine tR rfl hf (fun w hw => r_assign hf rfl) rfl fun a hf => t_done <| c_blockN <| ct <| wr <| om hf rfl rfl fun a hf => oR hf (r_add hf rfl rfl) rfl fun a hf => oa hf rfl rfl fun a hf => oN <| ct ?_
    replace hw : Ok E I2_776 (.row v931 9 1 m932 cs933 :: .blk b783 (.cells ⟨[rvv777, rvv779, .bool y772.ok_]⟩ 97 (0, 0)) :: F) w := hw.sub (sc (scc (scc sr)))
    exact ih (y872 ++ [y919], w64 (y877 + 1)) _ _ ⟨v931, m932, cs933, hw, hf.to ⟨rfl, rfl, rfl, rfl, rfl, trivial⟩, hRR934⟩ hp
   ·replace hp := cond_f hb911 hp
    refine wp_exit <| c_thenE <| c_thenE <| c_exit <| ct ?_
    have ho := oI hp
    subst ho
    exact ⟨y872, yv873, m874, cs875, rfl, hw, hf.to ⟨rfl, rfl, trivial⟩, hRR876⟩
  ·intro a w hM
   obtain ⟨y903, yv904, m905, cs906, rfl, hw, hf, hRR907⟩ := hM
   replace hp := hq909
   refine ct <| wq <| wr <| om hf rfl rfl fun a hf => om hf rfl rfl fun a hf => oa hf rfl rfl fun a hf => oa hf rfl rfl fun a hf => oN <| ct <| wp_ret ?_
   have hw : Ok E I2_776 (.row yv904 9 1 m905 cs906 :: .blk b783 (.cells ⟨[rvv777, rvv779, Value.bool y772.ok_]⟩ 97 (0, 0)) :: F) w := hw.front (i := 0) rfl
   obtain ⟨I937, hle938, hw, hR939⟩ := row_freeze (K := ekS) hw hRR907
   replace hG := hG.mono hle938
   replace hR778 := hR778.mono hle938
   replace hR780 := hR780.mono hle938
   replace hw : Ok E I937 (F) w := hw.sub (sc sr)
   have ho := oI hp
   simp only [Prod.mk.injEq] at ho
   obtain ⟨rfl, rfl⟩ := ho
   exact b_ret2 hf results29 rfl rfl ⟨_, rfl, ⟨I937, yv904, rfl, (IH.le_trans (IH.le_trans hle770 hle782) hle938), hw, hR939⟩⟩

theorem verify_may_ok {E : World} {I : IH} {F : List Atom} {w : World} {a0 : ByteArray} {res0 : Bool} (hw : Ok E I (F) w) (hG : Gl I) (hp : verify_may.f a0 = some res0) :
  Calls P 36 ⟨[Value.string a0]⟩ w fun e w' => ∃ v, e = .returned v ∧ v = Value.bool res0 ∧ Ok E I (F) w' := by
 refine c_enter func36 rfl ntmps36 rfl fun a hf => ?_
 replace hf : Fr 10 [(0, .string a0)] a := hf
 unfold verify_may.f at hp
 refine wq <| wr <| oa hf rfl rfl fun a hf => oN <| ct ?_
 obtain ⟨out4, hp, hq5⟩ := bS hp
 refine c_cut (fun a w => ∃ y3 : Bool, y3 = out4 ∧ Ok E I (F) w ∧ Fr 10 ([(2, .bool y3)]) a) ?_ ?_
 ·refine wr <| om hf rfl rfl fun a hf => oR hf (r_scmp hf rfl rfl rfl) rfl fun a hf => om hf rfl rfl fun a hf => g_split hf (g := 5) rfl (fun hb6 hf => ?_) (fun hb6 hf => ?_)
  ·replace hp := cond_t hb6 hp
   refine oW hf (g := 5) rfl rfl <| om hf rfl rfl fun a hf => oW hf (g := 5) rfl rfl <| oR hf (r_lenS hf und_9 rfl) rfl fun a hf => oW hf (g := 5) rfl rfl <| oR hf (iC hf rfl rfl rfl) rfl fun a hf => oR hf (pT hf rfl rfl) rfl fun a hf => oa hf rfl rfl fun a hf => oN <| ct ?_
   have ho := oI hp
   subst ho
   exact ⟨(decide ((a0.size : Int) ≤ 8)), rfl, hw, hf.to ⟨rfl, trivial⟩⟩
  ·replace hp := cond_f hb6 hp
   refine oQ hf (g := 5) rfl fun a hf => oQ hf (g := 5) rfl fun a hf => oQ hf (g := 5) rfl fun a hf => oR hf (pF hf rfl rfl) rfl fun a hf => oa hf rfl rfl fun a hf => oN <| ct ?_
   have ho := oI hp
   subst ho
   exact ⟨false, rfl, hw, hf.to ⟨rfl, trivial⟩⟩
 ·intro a w hM
  obtain ⟨y3, rfl, hw, hf⟩ := hM
  replace hp := hq5
  refine wp_ret ?_
  have ho := oI hp
  subst ho
  exact b_ret1 hf results36 rfl ⟨_, rfl, ⟨rfl, hw⟩⟩

theorem digest_Pad_ok {E : World} {I : IH} {F : List Atom} {w : World} {a0 : Int} {res0 : ByteArray} (hw : Ok E I (F) w) (hG : Gl I) (hp : digest_Pad.f a0 = some res0) :
  Calls P 102 ⟨[Value.int .i64 a0]⟩ w fun e w' => ∃ v, e = .returned v ∧ v = Value.string res0 ∧ Ok E I (F) w' := by
 refine c_enter func102 rfl ntmps102 rfl fun a hf => ?_
 replace hf : Fr 39 [(0, .int .i64 a0)] a := hf
 unfold digest_Pad.f at hp
 refine wq <| wr <| oa hf rfl rfl fun a hf => oN <| ct <| wq <| wr <| om hf rfl rfl fun a hf => oR hf (r_max hf rfl rfl) rfl fun a hf => oa hf rfl rfl fun a hf => oN <| ct <| wq <| wr <| om hf rfl rfl fun a hf => oR hf (r_add hf rfl rfl) rfl fun a hf => ?_
 refine oR hf (r_rem hf rfl rfl (by decide)) rfl fun a hf => oR hf (r_sub hf rfl rfl) rfl fun a hf => oa hf rfl rfl fun a hf => oN <| ct <| wq <| wr <| om hf rfl rfl fun a hf => oR hf (r_add hf rfl rfl) rfl fun a hf => om hf rfl rfl fun a hf => oR hf (r_add hf rfl rfl) rfl fun a hf => oR hf (r_add hf rfl rfl) rfl fun a hf => ?_
 obtain ⟨hg2, hp⟩ := gS hp
 obtain ⟨w, v3, cs6, hrun4, hw, hRR5⟩ := e_makeNC (P := P) (K := (ekI .u8)) hw hf (l := .tmp 14) (c := .tmp 17) el_45 ty_5 rfl (by decide) rfl rfl (x := 0) (fun _ => rfl) hg2
 refine o_eff hf (hrun4 ..) rfl fun a hf => oa hf rfl rfl fun a hf => oN <| ct <| wq <| wr <| om hf rfl rfl fun a hf => ?_
 obtain ⟨hg8, hp⟩ := gS hp
 refine oR hf (rI (K := (ekI .u8)) hf el_45 rfl rfl (rR (K := (ekI .u8)) hw (i := 0) rfl hRR5) hg8) rfl fun a hf => ?_
 obtain ⟨w, cs10, hrun9, hw, hRR11⟩ := e_storeH (P := P) (K := (ekI .u8)) hw hf (x := .tmp 20) (y := .const (Value.int .u8 128)) rfl rfl ty_5 0 rfl hRR5 hg8 rfl (vs := [.int .u8 128]) (oE rfl) rfl (oC rfl ones_nil) (Nat.le_of_eq (by rfl)) (x' := 128) (whole_store rfl)
 replace hw : Ok E I (.row v3 5 1 ((w64 (1 + (w64 (63 - ((w64 ((if 0 > a0 then 0 else a0) + 8)).tmod 64))))).toNat) cs10 :: F) w := hw
 refine o_effU (hrun9 ..) <| oN <| ct <| wq <| wr <| om hf rfl rfl fun a hf => oR hf (r_convI hf und_3 und_215 rfl) rfl fun a hf => oR hf (r_mul hf rfl rfl) rfl fun a hf => oa hf rfl rfl fun a hf => oN <| ct <| wq <| wq <| wr <| om hf rfl rfl fun a hf => oN ?_
 refine ct ?_
 obtain ⟨out68, hp, hq69⟩ := bS hp
 refine c_cutX (fun a w => ∃ y63 : List Int, ∃ yv64 : Value, ∃ m65 : Nat, ∃ cs66 : List Value, y63 = out68 ∧ Ok E I (.row yv64 5 1 m65 cs66 :: F) w ∧ Fr 39 ([(4, yv64)]) a ∧ RowR (ekI .u8) I cs66 y63) ?_ ?_
 ·refine wp_block <| c_loop <| c_fuel (digest_Pad.l0 a0) out68 (fun (y44, y49) a w => ∃ yv45 : Value, ∃ m46 : Nat, ∃ cs47 : List Value, Ok E I (.row yv45 5 1 m46 cs47 :: F) w ∧ Fr 39 ([(4, yv45), (5, .int .u64 (wu64 ((wu64 (if 0 > a0 then 0 else a0)) * 8))), (24, .int .i64 y49)]) a ∧ RowR (ekI .u8) I cs47 y44) (fun _ => rfl) ?_ BIG ((List.replicate (w64 (1 + (w64 (63 - ((w64 ((if 0 > a0 then 0 else a0) + 8)).tmod 64))))).toNat (0 : Int)).set (0 : Int).toNat 128, 0) _ _ ⟨v3, ((w64 (1 + (w64 (63 - ((w64 ((if 0 > a0 then 0 else a0) + 8)).tmod 64))))).toNat), cs10, hw, hf.to ⟨rfl, rfl, rfl, trivial⟩, hRR11⟩ hp
  intro k st a w hI hp ih
  obtain ⟨y44, y49⟩ := st
  obtain ⟨yv45, m46, cs47, hw, hf, hRR48⟩ := hI
  rw [digest_Pad.l0] at hp
  refine wq <| wr <| oR hf (iC hf rfl rfl rfl) rfl fun a hf => oN <| ct <| wq <| cC hf rfl (fun hb71 => ?_) (fun hb71 => ?_)
  ·replace hp := cond_t hb71 hp
   refine wp_skip <| ct <| wq <| wp_block <| wq <| wr <| om hf rfl rfl fun a hf => oa hf rfl rfl fun a hf => oN <| ct <| wr <| om hf rfl rfl fun a hf => om hf rfl rfl fun a hf => om hf rfl rfl fun a hf => oR hf (r_sub hf rfl rfl) rfl fun a hf => oR hf (r_mul hf rfl rfl) rfl fun a hf => ?_
   obtain ⟨hg72, hp⟩ := gS hp
   refine oR hf (r_shr hf rfl rfl hg72) rfl fun a hf => oR hf (r_convI hf und_215 und_5 rfl) rfl fun a hf => ?_
   obtain ⟨w, v73, hrun74, hw, hRR75⟩ := e_buildSlice (P := P) (K := (ekI .u8)) (m := 1) hw hf (parts := [(0, .tmp 33)]) el_45 ty_5 rfl rfl rfl (ccs := [[Value.int .u8 (wu8 (shr .u64 (wu64 ((wu64 (if 0 > a0 then 0 else a0)) * 8)) (w64 (8 * (w64 (7 - y49))))))]]) rfl (xs := [wu8 (shr .u64 (wu64 ((wu64 (if 0 > a0 then 0 else a0)) * 8)) (w64 (8 * (w64 (7 - y49)))))]) ⟨rfl, trivial⟩ rfl
   obtain ⟨cs76, hcs⟩ : ∃ cs, cs = ([[Value.int .u8 (wu8 (shr .u64 (wu64 ((wu64 (if 0 > a0 then 0 else a0)) * 8)) (w64 (8 * (w64 (7 - y49))))))]] : List (List Value)).flatten := ⟨_, rfl⟩
   rw [← hcs] at hw hRR75; clear hcs
   refine o_eff hf (hrun74 ..) rfl fun a hf => ?_
   obtain ⟨hg78, hp⟩ := gS hp
   obtain ⟨w, v79, m80, cs81, hrun83, hw, hRR82⟩ := e_append (P := P) (K := (ekI .u8)) (ty := 45) hw hf (s := .tmp 27) (x := .tmp 34) el_45 ty_5 rfl (by decide) 1 rfl rfl rfl hRR48 (ys := [wu8 (shr .u64 (wu64 ((wu64 (if 0 > a0 then 0 else a0)) * 8)) (w64 (8 * (w64 (7 - y49)))))]) (rR (K := (ekI .u8)) hw (i := 0) rfl hRR75) hg78
   replace hw : Ok E I (.row v73 5 1 1 cs76 :: .row v79 5 1 m80 cs81 :: F) w := hw
   refine o_eff hf (hrun83 ..) rfl fun a hf => oa hf rfl rfl fun a hf => oN <| c_blockN <| ct <| wr <| oR hf (r_add hf rfl rfl) rfl fun a hf => om hf rfl rfl fun a hf => oN <| ct ?_
   replace hw : Ok E I (.row v79 5 1 m80 cs81 :: F) w := hw.sub (sc (scc sr))
   exact ih (y44 ++ [wu8 (shr .u64 (wu64 ((wu64 (if 0 > a0 then 0 else a0)) * 8)) (w64 (8 * (w64 (7 - y49)))))], w64 (y49 + 1)) _ _ ⟨v79, m80, cs81, hw, hf.to ⟨rfl, rfl, rfl, trivial⟩, hRR82⟩ hp
  ·replace hp := cond_f hb71 hp
   refine wp_exit <| c_thenE <| c_thenE <| c_exit <| ct ?_
   have ho := oI hp
   subst ho
   exact ⟨y44, yv45, m46, cs47, rfl, hw, hf.to ⟨rfl, trivial⟩, hRR48⟩
 ·intro a w hM
  obtain ⟨y63, yv64, m65, cs66, rfl, hw, hf, hRR67⟩ := hM
  replace hp := hq69
  refine ct <| wq <| wr <| om hf rfl rfl fun a hf => oR hf (r_convB hf und_45 und_5 und_9 rfl (rR (K := (ekI .u8)) hw (i := 0) rfl hRR67)) rfl fun a hf => oa hf rfl rfl fun a hf => oN <| ct <| wp_ret ?_
  replace hw : Ok E I (F) w := hw.sub (sc sr)
  have ho := oI hp
  subst ho
  exact b_ret1 hf results102 rfl ⟨_, rfl, ⟨rfl, hw⟩⟩

theorem math_bits_RotateLeft32_ok {E : World} {I : IH} {F : List Atom} {w : World} {a0 : Int} {a1 : Int} {res0 : Int} (hw : Ok E I (F) w) (hG : Gl I) (hp : math_bits_RotateLeft32.f a0 a1 = some res0) :
  Calls P 182 ⟨[Value.int .u32 a0, Value.int .i64 a1]⟩ w fun e w' => ∃ v, e = .returned v ∧ v = Value.int .u32 res0 ∧ Ok E I (F) w' := by
 refine c_enter func182 rfl ntmps182 rfl fun a hf => ?_
 replace hf : Fr 17 [(0, .int .u32 a0), (1, .int .i64 a1)] a := hf
 unfold math_bits_RotateLeft32.f at hp
 refine wq <| wr <| oa hf rfl rfl fun a hf => oN <| ct <| wq <| wr <| om hf rfl rfl fun a hf => oR hf (r_convI hf und_3 und_160 rfl) rfl fun a hf => oR hf (r_and hf rfl rfl) rfl fun a hf => oa hf rfl rfl fun a hf => oN <| ct <| wq <| wr <| om hf rfl rfl fun a hf => ?_
 refine om hf rfl rfl fun a hf => ?_
 obtain ⟨hg1, hp⟩ := gS hp
 refine oR hf (r_shl hf rfl rfl hg1) rfl fun a hf => om hf rfl rfl fun a hf => om hf rfl rfl fun a hf => oR hf (r_sub hf rfl rfl) rfl fun a hf => ?_
 obtain ⟨hg2, hp⟩ := gS hp
 refine oR hf (r_shr hf rfl rfl hg2) rfl fun a hf => oR hf (r_or hf rfl rfl) rfl fun a hf => oa hf rfl rfl fun a hf => oN <| ct <| wp_ret ?_
 have ho := oI hp
 subst ho
 exact b_ret1 hf results182 rfl ⟨_, rfl, ⟨rfl, hw⟩⟩

theorem digest_turned_ok {E : World} {I : IH} {F : List Atom} {w : World} {a0 : Int} {a1 : Int} {res0 : Int} (hw : Ok E I (F) w) (hG : Gl I) (hp : digest_turned.f a0 a1 = some res0) :
  Calls P 139 ⟨[Value.int .u32 a0, Value.int .i64 a1]⟩ w fun e w' => ∃ v, e = .returned v ∧ v = Value.int .u32 res0 ∧ Ok E I (F) w' := by
 refine c_enter func139 rfl ntmps139 rfl fun a hf => ?_
 replace hf : Fr 9 [(0, .int .u32 a0), (1, .int .i64 a1)] a := hf
 unfold digest_turned.f at hp
 refine wq <| wr <| oa hf rfl rfl fun a hf => oN <| ct <| wq <| wr <| om hf rfl rfl fun a hf => om hf rfl rfl fun a hf => oR hf (r_neg hf rfl) rfl fun a hf => ?_
 obtain ⟨y3, hy4, hp⟩ := bS hp
 have hc6 := math_bits_RotateLeft32_ok hw hG hy4
 refine o_call hf cb_182 rfl rfl hc6 (fun v8 w a hK7 hf => ?_)
 obtain ⟨rfl, hw⟩ := hK7
 refine oa hf rfl rfl fun a hf => oN <| ct <| wp_ret ?_
 have ho := oI hp
 subst ho
 exact b_ret1 hf results139 rfl ⟨_, rfl, ⟨rfl, hw⟩⟩
end Go.Lf
