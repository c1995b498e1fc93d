/- The Go functions compute the plain Lean functions (printed by our lift.py). -/
import Derived.Test.YtckhmgglgbnaaaaDoorZD
import Derived.Test.YtckhmgglgbnaaaaDoorZF
import Derived.Test.YtckhmgglgbnaaaaDoorJ
import Derived.Test.YtckhmgglgbnaaaaDoorZK0
import Derived.Test.YtckhmgglgbnaaaaDoorZK12
set_option linter.unusedVariables false
set_option linter.unusedSimpArgs false
set_option maxHeartbeats 1000000
set_option maxRecDepth 20000
namespace Go.Lf
open Go
theorem ref12_Walk_ok {E : World} {I : IH} {F : List Atom} {w : World} {a0 : List Node} {a0v1 : Value} {a1 : ByteArray} {res0 : List Int} {res1 : Int} (hw : Ok E I (F) w) (hG : Gl I) (hR2 : RS ek_Node I a0v1 a0) (hp : ref12_Walk.f a0 a1 = some (res0, res1)) :
  Calls P 36 ⟨[a0v1, Value.string a1]⟩ w fun e w' => ∃ v, e = .returned v ∧ ∃ I2 : IH, ∃ rvv149 : Value, v = Value.tuple ⟨[rvv149, Value.int .i64 res1]⟩ ∧ IH.le I I2 ∧ Ok E I2 (F) w' ∧ RS (ekI .i64) I2 rvv149 res0 := by
 refine c_enter Go.Proofs.Tryd.func36 rfl Go.Proofs.Tryd.ntmps36 rfl fun a hf => ?_
 replace hf : Fr 73 [(0, a0v1), (1, .string a1)] a := hf
 unfold ref12_Walk.f at hp
 refine wq <| wr <| oa hf rfl rfl fun a hf => oa hf rfl rfl fun a hf => oN <| ct <| wq <| wq <| wr <| om hf rfl rfl fun a hf => ?_
 obtain ⟨y91, hy92, hp⟩ := bS hp
 have hc94 := ref10_Good_ok hw hG hR2 hy92
 refine o_call hf cb_43 rfl rfl hc94 (fun v96 w a hK95 hf => ?_)
 obtain ⟨rfl, hw⟩ := hK95
 refine oR hf (r_not hf rfl) rfl fun a hf => oN <| ct <| cC hf rfl (fun hb97 => ?_) (fun hb97 => ?_)
 ·replace hp := cond_t hb97 hp
  refine wq <| wr <| oa hf rfl rfl fun a hf => oa hf rfl rfl fun a hf => oN <| ct <| wp_ret <| c_thenR ?_
  have ho := oI hp
  simp only [Prod.mk.injEq] at ho
  obtain ⟨rfl, rfl⟩ := ho
  exact b_ret2 hf Go.Proofs.Tryd.results36 rfl rfl ⟨_, rfl, ⟨I, (Value.slice none 0 0), rfl, (IH.le_refl _), hw, RS.nil⟩⟩
 ·replace hp := cond_f hb97 hp
  refine wp_skip <| ct <| wq <| wq <| wr <| om hf rfl rfl fun a hf => ?_
  obtain ⟨y7, hy8, hp⟩ := bS hp
  have hc10 := ref12_Key_ok hw hG hy8
  refine o_call hf cb_35 rfl rfl hc10 (fun v12 w a hK11 hf => ?_)
  obtain ⟨rfl, hw⟩ := hK11
  refine oR hf (r_not hf rfl) rfl fun a hf => oN <| ct <| cC hf rfl (fun hb13 => ?_) (fun hb13 => ?_)
  ·replace hp := cond_t hb13 hp
   refine wq <| wr <| oa hf rfl rfl fun a hf => oa hf rfl rfl fun a hf => oN <| ct <| wp_ret <| c_thenR ?_
   have ho := oI hp
   simp only [Prod.mk.injEq] at ho
   obtain ⟨rfl, rfl⟩ := ho
   exact b_ret2 hf Go.Proofs.Tryd.results36 rfl rfl ⟨_, rfl, ⟨I, (Value.slice none 0 0), rfl, (IH.le_refl _), hw, RS.nil⟩⟩
  ·replace hp := cond_f hb13 hp
   refine wp_skip <| ct <| wq <| wr <| om hf rfl rfl fun a hf => ?_
   obtain ⟨y14, hy15, hp⟩ := bS hp
   have hc17 := ref02_Of_ok hw hG hy15
   refine o_call hf cb_49 rfl rfl hc17 (fun v19 w a hK18 hf => ?_)
   obtain ⟨rfl, hw⟩ := hK18
   refine oa hf rfl rfl fun a hf => oN <| ct <| wq <| wr <| oa hf rfl rfl fun a hf => oN <| ct <| wq <| wq <| wr <| oa hf rfl rfl fun a hf => oN <| ct ?_
   replace hw := hw.nilrow 3 1
   have hRR165 : RowR (ekI .i64) I [] [] := RowR.nil
   obtain ⟨out611, hp, hq612⟩ := bS hp
   refine c_cutX (fun a w => ∃ y606 : List Int, ∃ yv607 : Value, ∃ m608 : Nat, ∃ cs609 : List Value, y606 = out611 ∧ Ok E I (.row yv607 3 1 m608 cs609 :: F) w ∧ Fr 73 ([(7, yv607)]) a ∧ RowR (ekI .i64) I cs609 y606) ?_ ?_
   ·refine wp_block <| c_loop <| c_fuel (ref12_Walk.l0 a0) out611 (fun (y457, y462, y463) a w => ∃ yv458 : Value, ∃ m459 : Nat, ∃ cs460 : List Value, Ok E I (.row yv458 3 1 m459 cs460 :: F) w ∧ Fr 73 ([(0, a0v1), (6, .string y462), (7, yv458), (8, .int .i64 y463)]) a ∧ RowR (ekI .i64) I cs460 y457) (fun _ => rfl) ?_ BIG (([] : List Int), y14, 0) _ _ ⟨(.slice none 0 0), 0, [], hw, hf.to ⟨rfl, rfl, rfl, rfl, trivial⟩, hRR165⟩ hp
    intro k st a w hI hp ih
    obtain ⟨y457, y462, y463⟩ := st
    obtain ⟨yv458, m459, cs460, hw, hf, hRR461⟩ := hI
    rw [ref12_Walk.l0] at hp
    refine wq <| wq <| wr <| om hf rfl rfl fun a hf => om hf rfl rfl fun a hf => oR hf (r_lenL (K := ek_Node) hf el_23 rfl (hR2.rd hw)) rfl fun a hf => oR hf (iC hf rfl rfl rfl) rfl fun a hf => oN <| ct <| cC hf rfl (fun hb614 => ?_) (fun hb614 => ?_)
    ·replace hp := cond_t hb614 hp
     refine wp_skip <| ct <| wp_block <| wq <| wr <| om hf rfl rfl fun a hf => om hf rfl rfl fun a hf => ?_
     obtain ⟨w, v615, hrun616, hw, hRR617⟩ := e_buildSlice (P := P) (K := (ekI .i64)) (m := 1) hw hf (parts := [(0, .tmp 24)]) el_70 ty_3 rfl rfl rfl (ccs := [[Value.int .i64 y463]]) rfl (xs := [y463]) ⟨rfl, trivial⟩ rfl
     obtain ⟨cs618, hcs⟩ : ∃ cs, cs = ([[Value.int .i64 y463]] : List (List Value)).flatten := ⟨_, rfl⟩
     rw [← hcs] at hw hRR617; clear hcs
     refine o_eff hf (hrun616 ..) rfl fun a hf => ?_
     obtain ⟨hg620, hp⟩ := gS hp
     obtain ⟨w, v621, m622, cs623, hrun625, hw, hRR624⟩ := e_append (P := P) (K := (ekI .i64)) (ty := 70) hw hf (s := .tmp 23) (x := .tmp 25) el_70 ty_3 rfl (by decide) 1 rfl rfl rfl hRR461 (ys := [y463]) (rR (K := (ekI .i64)) hw (i := 0) rfl hRR617) hg620
     replace hw : Ok E I (.row v615 3 1 1 cs618 :: .row v621 3 1 m622 cs623 :: F) w := hw
     refine o_eff hf (hrun625 ..) rfl fun a hf => oa hf rfl rfl fun a hf => oN <| ct <| wq <| wr <| om hf rfl rfl fun a hf => om hf rfl rfl fun a hf => ?_
     obtain ⟨hg626, hp⟩ := gS hp
     refine oR hf (rI (K := ek_Node) hf el_23 rfl rfl (hR2.rd hw) hg626) rfl fun a hf => oR hf (r_loadHP (K := ek_Node) hf rfl ty_55 (hR2.rd hw) hg626 rfl (vs := (Value.int .i64 ((gt a0 y463).kind_) :: Value.string ((gt a0 y463).path_) :: Value.bool ((gt a0 y463).has_) :: Value.string ((gt a0 y463).value_) :: arrC .i64 ((gt a0 y463).kids_))) (fun cs h => Node_all h) (by simp [arrC_len])) rfl fun a hf => ?_
     obtain ⟨b627, w, hrun628, hw⟩ := e_alloc (P := P) (a := a) hw ty_55
     replace hw : Ok E I (.blk b627 (.cells ⟨.int .i64 0 :: .string (⟨#[]⟩ : ByteArray) :: .bool false :: .string (⟨#[]⟩ : ByteArray) :: arrC .i64 (Vector.replicate 16 0 : Vector Int 16)⟩ 55 (0, 0)) :: .row v615 3 1 1 cs618 :: .row v621 3 1 m622 cs623 :: F) w := hw
     refine o_eff hf (hrun628 ..) rfl fun a hf => ?_
     obtain ⟨w, hrun630, hw⟩ := e_store (P := P) hw hf (x := .tmp 9) (y := .tmp 30) rfl rfl ty_55 0 rfl (vs := (Value.int .i64 ((gt a0 y463).kind_) :: Value.string ((gt a0 y463).path_) :: Value.bool ((gt a0 y463).has_) :: Value.string ((gt a0 y463).value_) :: arrC .i64 ((gt a0 y463).kids_))) rfl (by simp [arrC_len]) (oC rfl (oC rfl (oC rfl (oC rfl (arrC_one _ _))))) (by simp [arrC_len]) (cs' := (Value.int .i64 ((gt a0 y463).kind_) :: Value.string ((gt a0 y463).path_) :: Value.bool ((gt a0 y463).has_) :: Value.string ((gt a0 y463).value_) :: arrC .i64 ((gt a0 y463).kids_))) (by simp [arrC_len])
     replace hw : Ok E I (.blk b627 (.cells ⟨.int .i64 ((gt a0 y463).kind_) :: .string ((gt a0 y463).path_) :: .bool ((gt a0 y463).has_) :: .string ((gt a0 y463).value_) :: arrC .i64 ((gt a0 y463).kids_)⟩ 55 (0, 0)) :: .row v615 3 1 1 cs618 :: .row v621 3 1 m622 cs623 :: F) w := hw
     refine o_effU (hrun630 ..) <| oN <| ct <| wq <| wr <| oa hf rfl rfl fun a hf => oN <| ct ?_
     obtain ⟨out713, hp, hq714⟩ := bS hp
     refine c_cut (fun a w => ∃ y711 : Int, ∃ y712 : ByteArray, (y711, y712) = out713 ∧ Ok E I (.blk b627 (.cells ⟨.int .i64 ((gt a0 y463).kind_) :: .string ((gt a0 y463).path_) :: .bool ((gt a0 y463).has_) :: .string ((gt a0 y463).value_) :: arrC .i64 ((gt a0 y463).kids_)⟩ 55 (0, 0)) :: .row v615 3 1 1 cs618 :: .row v621 3 1 m622 cs623 :: F) w ∧ Fr 73 ([(0, a0v1), (6, .string y712), (7, v621), (10, .int .i64 y711)]) a) ?_ ?_
     ·refine wp_block ?_
      obtain ⟨out732, hp, hq733⟩ := bS hp
      refine c_cut (fun a w => ∃ y731 : Bool, y731 = out732 ∧ Ok E I (.blk b627 (.cells ⟨.int .i64 ((gt a0 y463).kind_) :: .string ((gt a0 y463).path_) :: .bool ((gt a0 y463).has_) :: .string ((gt a0 y463).value_) :: arrC .i64 ((gt a0 y463).kids_)⟩ 55 (0, 0)) :: .row v615 3 1 1 cs618 :: .row v621 3 1 m622 cs623 :: F) w ∧ Fr 73 ([(0, a0v1), (6, .string y462), (7, v621), (9, .pointer (some ⟨b627, 0, none⟩)), (10, .int .i64 0), (31, .bool y731)]) a) ?_ ?_
      ·refine c_drawn mix [] (.rd 0 (.rd 1 (.rd 2 (.rd 3 (.rd 4 (.rd 5 (.rd 6 (.rd 8 (.rd 9 (.rd 10 (.ef 7 (.rd 11 (.rd 12 (.rd 13 .done)))))))))))))) (by kernel_rfl) hw (fun w => Ok E I (.blk b627 (.cells ⟨.int .i64 ((gt a0 y463).kind_) :: .string ((gt a0 y463).path_) :: .bool ((gt a0 y463).has_) :: .string ((gt a0 y463).value_) :: arrC .i64 ((gt a0 y463).kids_)⟩ 55 (0, 0)) :: .row v615 3 1 1 cs618 :: .row v621 3 1 m622 cs623 :: F) w) (fun w hw => ⟨hw.sub (scc (scc (scc sr))), ?_⟩)
       refine tR rfl hf (fun w hw => rF hf rfl fd_55_0) rfl fun a hf => tR rfl hf (fun w hw => rL hw hf rfl ty_3 0 rfl rfl) rfl fun a hf => tR rfl hf (fun w hw => iC hf rfl rfl rfl) rfl fun a hf => tm rfl hf rfl rfl fun a hf => g_split hf (g := 35) rfl (fun hb735 hf => ?_) (fun hb735 hf => ?_)
       ·replace hp := cond_t hb735 hp
        refine tG rfl rfl hf rfl (fun w hw => r_move hf rfl) rfl fun a hf => tG rfl rfl hf rfl (fun w hw => rF hf rfl fd_55_1) rfl fun a hf => tG rfl rfl hf rfl (fun w hw => rL hw hf rfl ty_9 0 rfl rfl) rfl fun a hf => tG rfl rfl hf rfl (fun w hw => rF hf rfl fd_55_1) rfl fun a hf => tG rfl rfl hf rfl (fun w hw => rL hw hf rfl ty_9 0 rfl rfl) rfl fun a hf => tG rfl rfl hf rfl (fun w hw => r_lenS hf und_9 rfl) rfl fun a hf => t_ef rfl ?_
        obtain ⟨y736, hy737, hp⟩ := bS hp
        have hc739 := ref02_Common_ok hw hG hy737
        refine t_callG rfl hf rfl cb_59 rfl rfl hc739 (fun v741 w a hK740 hf => ?_)
        obtain ⟨rfl, hw⟩ := hK740
        refine ⟨.inr (hw.back (IH.le_refl _) (scc (scc (scc sr)))), ?_⟩
        refine tG rfl rfl hf rfl (fun w hw => iC hf rfl rfl rfl) rfl fun a hf => tR rfl hf (fun w hw => pT hf rfl rfl) rfl fun a hf => tR rfl hf (fun w hw => r_assign hf rfl) rfl fun a hf => t_done <| ct ?_
        have ho := oI hp
        subst ho
        exact ⟨(y736 == (((gt a0 y463).path_).size : Int)), rfl, hw, hf.to ⟨rfl, rfl, rfl, rfl, rfl, rfl, trivial⟩⟩
       ·replace hp := cond_f hb735 hp
        refine tS rfl rfl hf rfl rfl rfl fun a hf => tS rfl rfl hf rfl rfl rfl fun a hf => tS rfl rfl hf rfl rfl rfl fun a hf => tS rfl rfl hf rfl rfl rfl fun a hf => tS rfl rfl hf rfl rfl rfl fun a hf => tS rfl rfl hf rfl rfl rfl fun a hf => t_ef rfl <| t_skipE rfl hf rfl rfl rfl fun a hf => ⟨.inr (hw.back (IH.le_refl _) (scc (scc (scc sr)))), ?_⟩
        refine tS rfl rfl hf rfl rfl rfl fun a hf => tR rfl hf (fun w hw => pF hf rfl rfl) rfl fun a hf => tR rfl hf (fun w hw => r_assign hf rfl) rfl fun a hf => t_done <| ct ?_
        have ho := oI hp
        subst ho
        exact ⟨false, rfl, hw, hf.to ⟨rfl, rfl, rfl, rfl, rfl, rfl, trivial⟩⟩
      ·intro a w hM
       obtain ⟨y731, rfl, hw, hf⟩ := hM
       replace hp := hq733
       refine cC hf rfl (fun hb742 => ?_) (fun hb742 => ?_)
       ·replace hp := cond_t hb742 hp
        refine wq <| wr <| om hf rfl rfl fun a hf => oR hf (rF hf rfl fd_55_1) rfl fun a hf => oR hf (rL hw hf rfl ty_9 0 rfl rfl) rfl fun a hf => oR hf (r_lenS hf und_9 rfl) rfl fun a hf => ?_
        obtain ⟨hg743, hp⟩ := gS hp
        refine oR hf (r_sliceSl hf und_9 rfl rfl hg743) rfl fun a hf => oa hf rfl rfl fun a hf => oN <| ct <| wr <| oR hf (rF hf rfl fd_55_4) rfl fun a hf => ?_
        obtain ⟨hg744, hp⟩ := gS hp
        refine oR hf (r_indexAddrA hf el_53 rfl rfl hg744) rfl fun a hf => oR hf (rL hw hf rfl ty_3 0 rfl (arr_at (k := .i64) (v := (gt a0 y463).kids_) rfl hg744)) rfl fun a hf => oa hf rfl rfl fun a hf => oN <| c_blockN <| ct ?_
        have ho := oI hp
        subst ho
        exact ⟨(vg ((gt a0 y463).kids_) 0), (sub y462 (((gt a0 y463).path_).size : Int) (y462.size : Int)), rfl, hw, hf.to ⟨rfl, rfl, rfl, rfl, trivial⟩⟩
       ·replace hp := cond_f hb742 hp
        obtain ⟨out748, hp, hq749⟩ := bS hp
        refine c_cut (fun a w => ∃ y747 : Bool, y747 = out748 ∧ Ok E I (.blk b627 (.cells ⟨.int .i64 ((gt a0 y463).kind_) :: .string ((gt a0 y463).path_) :: .bool ((gt a0 y463).has_) :: .string ((gt a0 y463).value_) :: arrC .i64 ((gt a0 y463).kids_)⟩ 55 (0, 0)) :: .row v615 3 1 1 cs618 :: .row v621 3 1 m622 cs623 :: F) w ∧ Fr 73 ([(0, a0v1), (6, .string y462), (7, v621), (9, .pointer (some ⟨b627, 0, none⟩)), (10, .int .i64 0), (53, .bool y747)]) a) ?_ ?_
        ·refine wr <| oR hf (rF hf rfl fd_55_0) rfl fun a hf => oR hf (rL hw hf rfl ty_3 0 rfl rfl) rfl fun a hf => oR hf (iC hf rfl rfl rfl) rfl fun a hf => om hf rfl rfl fun a hf => g_split hf (g := 57) rfl (fun hb750 hf => ?_) (fun hb750 hf => ?_)
         ·replace hp := cond_t hb750 hp
          refine oW hf (g := 57) rfl rfl <| om hf rfl rfl fun a hf => oW hf (g := 57) rfl rfl <| oR hf (r_lenS hf und_9 rfl) rfl fun a hf => oW hf (g := 57) rfl rfl <| oR hf (iC hf rfl rfl rfl) rfl fun a hf => oR hf (pT hf rfl rfl) rfl fun a hf => oa hf rfl rfl fun a hf => oN <| ct ?_
          have ho := oI hp
          subst ho
          exact ⟨(decide ((y462.size : Int) > 0)), rfl, hw, hf.to ⟨rfl, rfl, rfl, rfl, rfl, rfl, trivial⟩⟩
         ·replace hp := cond_f hb750 hp
          refine oS hf (g := 57) rfl rfl rfl rfl rfl rfl fun a hf => oS hf (g := 57) rfl rfl rfl rfl rfl rfl fun a hf => oS hf (g := 57) rfl rfl rfl rfl rfl rfl fun a hf => oR hf (pF hf rfl rfl) rfl fun a hf => oa hf rfl rfl fun a hf => oN <| ct ?_
          have ho := oI hp
          subst ho
          exact ⟨false, rfl, hw, hf.to ⟨rfl, rfl, rfl, rfl, rfl, rfl, trivial⟩⟩
        ·intro a w hM
         obtain ⟨y747, rfl, hw, hf⟩ := hM
         replace hp := hq749
         refine cC hf rfl (fun hb751 => ?_) (fun hb751 => ?_)
         ·replace hp := cond_t hb751 hp
          refine wq <| wr <| om hf rfl rfl fun a hf => ?_
          obtain ⟨hg752, hp⟩ := gS hp
          refine oR hf (r_indexS hf und_9 rfl rfl hg752) rfl fun a hf => oR hf (rF hf rfl fd_55_4) rfl fun a hf => ?_
          obtain ⟨hg753, hp⟩ := gS hp
          refine oR hf (r_indexAddrA hf el_53 rfl rfl hg753) rfl fun a hf => oR hf (rL hw hf rfl ty_3 0 rfl (arr_at (k := .i64) (v := (gt a0 y463).kids_) rfl hg753)) rfl fun a hf => oa hf rfl rfl fun a hf => oN <| ct <| wr <| om hf rfl rfl fun a hf => ?_
          obtain ⟨hg754, hp⟩ := gS hp
          refine oR hf (r_sliceSl hf und_9 rfl rfl hg754) rfl fun a hf => oa hf rfl rfl fun a hf => oN <| c_blockN <| ct ?_
          have ho := oI hp
          subst ho
          exact ⟨(vg ((gt a0 y463).kids_) (bt y462 0)), (sub y462 1 (y462.size : Int)), rfl, hw, hf.to ⟨rfl, rfl, rfl, rfl, trivial⟩⟩
         ·replace hp := cond_f hb751 hp
          refine wp_skip <| c_blockN <| ct ?_
          have ho := oI hp
          subst ho
          exact ⟨0, y462, rfl, hw, hf.to ⟨rfl, rfl, rfl, rfl, trivial⟩⟩
     ·intro a w hM
      obtain ⟨y711, y712, rfl, hw, hf⟩ := hM
      replace hp := hq714
      refine wq <| wq <| wr <| om hf rfl rfl fun a hf => oR hf (iC hf rfl rfl rfl) rfl fun a hf => oN <| ct <| cC hf rfl (fun hb755 => ?_) (fun hb755 => ?_)
      ·replace hp := cond_t hb755 hp
       refine wp_exit <| c_thenE <| c_exitNe rfl <| c_thenE <| c_exit <| ct ?_
       have ho := oI hp
       subst ho
       replace hw : Ok E I (.row v621 3 1 m622 cs623 :: F) w := hw.sub (sc (sc (scc sr)))
       exact ⟨(y457 ++ [y463]), v621, m622, cs623, rfl, hw, hf.to ⟨rfl, trivial⟩, hRR624⟩
      ·replace hp := cond_f hb755 hp
       refine wp_skip <| ct <| wr <| om hf rfl rfl fun a hf => oa hf rfl rfl fun a hf => oN <| c_blockN <| ct ?_
       replace hw : Ok E I (.row v621 3 1 m622 cs623 :: F) w := hw.sub (sc (sc (scc sr)))
       exact ih (y457 ++ [y463], y712, y711) _ _ ⟨v621, m622, cs623, hw, hf.to ⟨rfl, rfl, rfl, rfl, trivial⟩, hRR624⟩ hp
    ·replace hp := cond_f hb614 hp
     refine wp_exit <| c_thenE <| c_thenE <| c_exit <| ct ?_
     have ho := oI hp
     subst ho
     exact ⟨y457, yv458, m459, cs460, rfl, hw, hf.to ⟨rfl, trivial⟩, hRR461⟩
   ·intro a w hM
    obtain ⟨y606, yv607, m608, cs609, rfl, hw, hf, hRR610⟩ := hM
    replace hp := hq612
    refine ct <| wq <| wr <| om hf rfl rfl fun a hf => oa hf rfl rfl fun a hf => oa hf rfl rfl fun a hf => oN <| ct <| wp_ret ?_
    have hw : Ok E I (.row yv607 3 1 m608 cs609 :: F) w := hw.front (i := 0) rfl
    obtain ⟨I757, hle758, hw, hR759⟩ := row_freeze (K := (ekI .i64)) hw hRR610
    replace hG := hG.mono hle758
    have ho := oI hp
    simp only [Prod.mk.injEq] at ho
    obtain ⟨rfl, rfl⟩ := ho
    exact b_ret2 hf Go.Proofs.Tryd.results36 rfl rfl ⟨_, rfl, ⟨I757, yv607, rfl, hle758, hw, hR759⟩⟩

theorem ref04_primes_ok {E : World} {I : IH} {F : List Atom} {w : World} {a0 : Int} {res0 : List Int} (hw : Ok E I (F) w) (hG : Gl I) (hp : ref04_primes.f a0 = some res0) :
  Calls P 63 ⟨[Value.int .i64 a0]⟩ w fun e w' => ∃ v, e = .returned v ∧ ∃ I2 : IH, ∃ rvv151 : Value, v = rvv151 ∧ IH.le I I2 ∧ Ok E I2 (F) w' ∧ RS (ekI .u64) I2 rvv151 res0 := by
 refine c_enter Go.Proofs.Tryd.func63 rfl Go.Proofs.Tryd.ntmps63 rfl fun a hf => ?_
 replace hf : Fr 35 [(0, .int .i64 a0)] a := hf
 unfold ref04_primes.f at hp
 refine wq <| wr <| oa hf rfl rfl fun a hf => oN <| ct <| wq <| wr <| oa hf rfl rfl fun a hf => oN <| ct <| wq <| wq <| wr <| oa hf rfl rfl fun a hf => oN <| ct ?_
 replace hw := hw.nilrow 111 1
 have hRR127 : RowR (ekI .u64) I [] [] := RowR.nil
 obtain ⟨out934, hp, hq935⟩ := bS hp
 refine c_cutX (fun a w => ∃ y929 : List Int, ∃ yv930 : Value, ∃ m931 : Nat, ∃ cs932 : List Value, y929 = out934 ∧ Ok E I (.row yv930 111 1 m931 cs932 :: F) w ∧ Fr 35 ([(3, yv930)]) a ∧ RowR (ekI .u64) I cs932 y929) ?_ ?_
 ·refine wp_block <| c_loop <| c_fuel (ref04_primes.l0 a0) out934 (fun (y660, y665) a w => ∃ yv661 : Value, ∃ m662 : Nat, ∃ cs663 : List Value, Ok E I (.row yv661 111 1 m662 cs663 :: F) w ∧ Fr 35 ([(0, .int .i64 a0), (3, yv661), (4, .int .u64 y665)]) a ∧ RowR (ekI .u64) I cs663 y660) (fun _ => rfl) ?_ BIG (([] : List Int), 2) _ _ ⟨(.slice none 0 0), 0, [], hw, hf.to ⟨rfl, rfl, rfl, trivial⟩, hRR127⟩ hp
  intro k st a w hI hp ih
  obtain ⟨y660, y665⟩ := st
  obtain ⟨yv661, m662, cs663, hw, hf, hRR664⟩ := hI
  rw [ref04_primes.l0] at hp
  refine wq <| wq <| wr <| om hf rfl rfl fun a hf => oR hf (r_lenL (K := (ekI .u64)) hf el_108 rfl (rR (K := (ekI .u64)) hw (i := 0) rfl hRR664)) rfl fun a hf => om hf rfl rfl fun a hf => oR hf (iC hf rfl rfl rfl) rfl fun a hf => oN <| ct <| cC hf rfl (fun hb937 => ?_) (fun hb937 => ?_)
  ·replace hp := cond_t hb937 hp
   refine wp_skip <| ct ?_
   obtain ⟨out1113, hp, hq1114⟩ := bS hp
   refine c_cut (fun a w => ∃ y1108 : List Int, ∃ yv1109 : Value, ∃ m1110 : Nat, ∃ cs1111 : List Value, y1108 = out1113 ∧ Ok E I (.row yv1109 111 1 m1110 cs1111 :: F) w ∧ Fr 35 ([(0, .int .i64 a0), (3, yv1109), (4, .int .u64 y665)]) a ∧ RowR (ekI .u64) I cs1111 y1108) ?_ ?_
   ·refine wp_block <| wq <| wr <| oa hf rfl rfl fun a hf => oN <| ct <| wq <| wq <| wr <| oa hf rfl rfl fun a hf => oN <| ct ?_
    obtain ⟨out1168, hp, hq1169⟩ := bS hp
    refine c_cutX (fun a w => ∃ y1167 : Bool, y1167 = out1168 ∧ Ok E I (.row yv661 111 1 m662 cs663 :: F) w ∧ Fr 35 ([(0, .int .i64 a0), (3, yv661), (4, .int .u64 y665), (5, .bool y1167)]) a) ?_ ?_
    ·refine wp_block <| c_loop <| c_fuel (ref04_primes.l1 y660 y665) out1168 (fun (y1149, y1150) a w => Ok E I (.row yv661 111 1 m662 cs663 :: F) w ∧ Fr 35 ([(0, .int .i64 a0), (3, yv661), (4, .int .u64 y665), (5, .bool y1149), (6, .int .i64 y1150)]) a) (fun _ => rfl) ?_ BIG (true, 0) _ _ ⟨hw, hf.to ⟨rfl, rfl, rfl, rfl, rfl, trivial⟩⟩ hp
     intro k st a w hI hp ih
     obtain ⟨y1149, y1150⟩ := st
     obtain ⟨hw, hf⟩ := hI
     rw [ref04_primes.l1] at hp
     refine wq ?_
     obtain ⟨out1181, hp, hq1182⟩ := bS hp
     refine c_cut (fun a w => ∃ y1180 : Bool, y1180 = out1181 ∧ Ok E I (.row yv661 111 1 m662 cs663 :: F) w ∧ Fr 35 ([(0, .int .i64 a0), (3, yv661), (4, .int .u64 y665), (5, .bool y1149), (6, .int .i64 y1150), (19, .bool y1180)]) a) ?_ ?_
     ·refine wr <| om hf rfl rfl fun a hf => om hf rfl rfl fun a hf => oR hf (r_lenL (K := (ekI .u64)) hf el_108 rfl (rR (K := (ekI .u64)) hw (i := 0) rfl hRR664)) rfl fun a hf => oR hf (iC hf rfl rfl rfl) rfl fun a hf => om hf rfl rfl fun a hf => g_split hf (g := 17) rfl (fun hb1183 hf => ?_) (fun hb1183 hf => ?_)
      ·replace hp := cond_t hb1183 hp
       refine oW hf (g := 17) rfl rfl <| om hf rfl rfl fun a hf => oR hf (pT hf rfl rfl) rfl fun a hf => oN <| ct ?_
       have ho := oI hp
       subst ho
       exact ⟨y1149, rfl, hw, hf.to ⟨rfl, rfl, rfl, rfl, rfl, rfl, trivial⟩⟩
      ·replace hp := cond_f hb1183 hp
       refine oS hf (g := 17) rfl rfl rfl rfl rfl rfl fun a hf => oR hf (pF hf rfl rfl) rfl fun a hf => oN <| ct ?_
       have ho := oI hp
       subst ho
       exact ⟨false, rfl, hw, hf.to ⟨rfl, rfl, rfl, rfl, rfl, rfl, trivial⟩⟩
     ·intro a w hM
      obtain ⟨y1180, rfl, hw, hf⟩ := hM
      replace hp := hq1182
      refine cC hf rfl (fun hb1184 => ?_) (fun hb1184 => ?_)
      ·replace hp := cond_t hb1184 hp
       refine wp_skip <| ct <| wq <| wp_block <| wr <| om hf rfl rfl fun a hf => om hf rfl rfl fun a hf => om hf rfl rfl fun a hf => ?_
       obtain ⟨hg1185, hp⟩ := gS hp
       refine oR hf (rI (K := (ekI .u64)) hf el_108 rfl rfl (rR (K := (ekI .u64)) hw (i := 0) rfl hRR664) hg1185) rfl fun a hf => oR hf (r_loadH (K := (ekI .u64)) hf rfl ty_111 (rR (K := (ekI .u64)) hw (i := 0) rfl hRR664) hg1185 rfl (fun cs h => ekI_f0 h)) rfl fun a hf => ?_
       obtain ⟨hg1186, hp⟩ := gS hp
       refine oR hf (r_rem hf rfl rfl hg1186) rfl fun a hf => oR hf (iC hf rfl rfl rfl) rfl fun a hf => oa hf rfl rfl fun a hf => oN <| c_blockN <| ct <| wr <| om hf rfl rfl fun a hf => oR hf (r_add hf rfl rfl) rfl fun a hf => oa hf rfl rfl fun a hf => oN <| ct ?_
       exact ih ((y665.tmod (gt y660 y1150)) != 0, w64 (y1150 + 1)) _ _ ⟨hw, hf.to ⟨rfl, rfl, rfl, rfl, rfl, trivial⟩⟩ hp
      ·replace hp := cond_f hb1184 hp
       refine wp_exit <| c_thenE <| c_thenE <| c_exit <| ct ?_
       have ho := oI hp
       subst ho
       exact ⟨y1149, rfl, hw, hf.to ⟨rfl, rfl, rfl, rfl, trivial⟩⟩
    ·intro a w hM
     obtain ⟨y1167, rfl, hw, hf⟩ := hM
     replace hp := hq1169
     refine ct <| wq <| wr <| om hf rfl rfl fun a hf => oN <| ct <| cC hf rfl (fun hb1188 => ?_) (fun hb1188 => ?_)
     ·replace hp := cond_t hb1188 hp
      refine wr <| om hf rfl rfl fun a hf => om hf rfl rfl fun a hf => ?_
      obtain ⟨w, v1189, hrun1190, hw, hRR1191⟩ := e_buildSlice (P := P) (K := (ekI .u64)) (m := 1) hw hf (parts := [(0, .tmp 31)]) el_108 ty_111 rfl rfl rfl (ccs := [[Value.int .u64 y665]]) rfl (xs := [y665]) ⟨rfl, trivial⟩ rfl
      obtain ⟨cs1192, hcs⟩ : ∃ cs, cs = ([[Value.int .u64 y665]] : List (List Value)).flatten := ⟨_, rfl⟩
      rw [← hcs] at hw hRR1191; clear hcs
      refine o_eff hf (hrun1190 ..) rfl fun a hf => ?_
      obtain ⟨hg1194, hp⟩ := gS hp
      obtain ⟨w, v1195, m1196, cs1197, hrun1199, hw, hRR1198⟩ := e_append (P := P) (K := (ekI .u64)) (ty := 108) hw hf (s := .tmp 30) (x := .tmp 32) el_108 ty_111 rfl (by decide) 1 rfl rfl rfl hRR664 (ys := [y665]) (rR (K := (ekI .u64)) hw (i := 0) rfl hRR1191) hg1194
      replace hw : Ok E I (.row v1189 111 1 1 cs1192 :: .row v1195 111 1 m1196 cs1197 :: F) w := hw
      refine o_eff hf (hrun1199 ..) rfl fun a hf => oa hf rfl rfl fun a hf => oN <| c_blockN <| ct ?_
      have ho := oI hp
      subst ho
      replace hw : Ok E I (.row v1195 111 1 m1196 cs1197 :: F) w := hw.sub (sc (scc sr))
      exact ⟨(y660 ++ [y665]), v1195, m1196, cs1197, rfl, hw, hf.to ⟨rfl, rfl, rfl, trivial⟩, hRR1198⟩
     ·replace hp := cond_f hb1188 hp
      refine wp_skip <| c_blockN <| ct ?_
      have ho := oI hp
      subst ho
      exact ⟨y660, yv661, m662, cs663, rfl, hw, hf.to ⟨rfl, rfl, rfl, trivial⟩, hRR664⟩
   ·intro a w hM
    obtain ⟨y1108, yv1109, m1110, cs1111, rfl, hw, hf, hRR1112⟩ := hM
    replace hp := hq1114
    refine wr <| om hf rfl rfl fun a hf => oR hf (r_add hf rfl rfl) rfl fun a hf => oa hf rfl rfl fun a hf => oN <| ct ?_
    exact ih (y1108, wu64 (y665 + 1)) _ _ ⟨yv1109, m1110, cs1111, hw, hf.to ⟨rfl, rfl, rfl, trivial⟩, hRR1112⟩ hp
  ·replace hp := cond_f hb937 hp
   refine wp_exit <| c_thenE <| c_thenE <| c_exit <| ct ?_
   have ho := oI hp
   subst ho
   exact ⟨y660, yv661, m662, cs663, rfl, hw, hf.to ⟨rfl, trivial⟩, hRR664⟩
 ·intro a w hM
  obtain ⟨y929, yv930, m931, cs932, rfl, hw, hf, hRR933⟩ := hM
  replace hp := hq935
  refine ct <| wq <| wr <| om hf rfl rfl fun a hf => oa hf rfl rfl fun a hf => oN <| ct <| wp_ret ?_
  have hw : Ok E I (.row yv930 111 1 m931 cs932 :: F) w := hw.front (i := 0) rfl
  obtain ⟨I1201, hle1202, hw, hR1203⟩ := row_freeze (K := (ekI .u64)) hw hRR933
  replace hG := hG.mono hle1202
  have ho := oI hp
  subst ho
  exact b_ret1 hf Go.Proofs.Tryd.results63 rfl ⟨_, rfl, ⟨I1201, yv930, rfl, hle1202, hw, hR1203⟩⟩

theorem ref04_times_ok {E : World} {I : IH} {F : List Atom} {w : World} {a0 : Int} {a1 : Int} {res0 : Int} {res1 : Int} (hw : Ok E I (F) w) (hG : Gl I) (hp : ref04_times.f a0 a1 = some (res0, res1)) :
  Calls P 90 ⟨[Value.int .u64 a0, Value.int .u64 a1]⟩ w fun e w' => ∃ v, e = .returned v ∧ v = Value.tuple ⟨[Value.int .u64 res0, Value.int .u64 res1]⟩ ∧ Ok E I (F) w' := by
 refine c_enter Go.Proofs.Tryd.func90 rfl Go.Proofs.Tryd.ntmps90 rfl fun a hf => ?_
 replace hf : Fr 58 [(0, .int .u64 a0), (1, .int .u64 a1)] a := hf
 unfold ref04_times.f at hp
 refine wq <| wr <| oa hf rfl rfl fun a hf => oa hf rfl rfl fun a hf => oN <| ct <| wq <| wr <| om hf rfl rfl fun a hf => oR hf (r_and hf rfl rfl) rfl fun a hf => om hf rfl rfl fun a hf => oR hf (r_shr hf rfl rfl (by decide)) rfl fun a hf => om hf rfl rfl fun a hf => oR hf (r_and hf rfl rfl) rfl fun a hf => om hf rfl rfl fun a hf => oR hf (r_shr hf rfl rfl (by decide)) rfl fun a hf => ?_
 refine oa hf rfl rfl fun a hf => oa hf rfl rfl fun a hf => oa hf rfl rfl fun a hf => oa hf rfl rfl fun a hf => oN <| ct <| wq <| wr <| om hf rfl rfl fun a hf => om hf rfl rfl fun a hf => oR hf (r_mul hf rfl rfl) rfl fun a hf => om hf rfl rfl fun a hf => om hf rfl rfl fun a hf => oR hf (r_mul hf rfl rfl) rfl fun a hf => om hf rfl rfl fun a hf => om hf rfl rfl fun a hf => ?_
 refine oR hf (r_mul hf rfl rfl) rfl fun a hf => om hf rfl rfl fun a hf => om hf rfl rfl fun a hf => oR hf (r_mul hf rfl rfl) rfl fun a hf => oa hf rfl rfl fun a hf => oa hf rfl rfl fun a hf => oa hf rfl rfl fun a hf => oa hf rfl rfl fun a hf => oN <| ct <| wq <| wr <| om hf rfl rfl fun a hf => oR hf (r_shr hf rfl rfl (by decide)) rfl fun a hf => om hf rfl rfl fun a hf => oR hf (r_and hf rfl rfl) rfl fun a hf => ?_
 refine oR hf (r_add hf rfl rfl) rfl fun a hf => om hf rfl rfl fun a hf => oR hf (r_and hf rfl rfl) rfl fun a hf => oR hf (r_add hf rfl rfl) rfl fun a hf => oa hf rfl rfl fun a hf => oN <| ct <| wq <| wr <| om hf rfl rfl fun a hf => om hf rfl rfl fun a hf => oR hf (r_shr hf rfl rfl (by decide)) rfl fun a hf => oR hf (r_add hf rfl rfl) rfl fun a hf => om hf rfl rfl fun a hf => oR hf (r_shr hf rfl rfl (by decide)) rfl fun a hf => oR hf (r_add hf rfl rfl) rfl fun a hf => ?_
 refine om hf rfl rfl fun a hf => oR hf (r_shr hf rfl rfl (by decide)) rfl fun a hf => oR hf (r_add hf rfl rfl) rfl fun a hf => om hf rfl rfl fun a hf => oR hf (r_and hf rfl rfl) rfl fun a hf => om hf rfl rfl fun a hf => oR hf (r_shl hf rfl rfl (by decide)) rfl fun a hf => oR hf (r_or hf rfl rfl) rfl fun a hf => oa hf rfl rfl fun a hf => oa hf rfl rfl fun a hf => oN <| ct <| wp_ret ?_
 have ho := oI hp
 simp only [Prod.mk.injEq] at ho
 obtain ⟨rfl, rfl⟩ := ho
 exact b_ret2 hf Go.Proofs.Tryd.results90 rfl rfl ⟨_, rfl, ⟨rfl, hw⟩⟩

theorem ref04_square_ok {E : World} {I : IH} {F : List Atom} {w : World} {a0 : Int} {res0 : Int} (hw : Ok E I (F) w) (hG : Gl I) (hp : ref04_square.f a0 = some res0) :
  Calls P 64 ⟨[Value.int .u64 a0]⟩ w fun e w' => ∃ v, e = .returned v ∧ v = Value.int .u32 res0 ∧ Ok E I (F) w' := by
 refine c_enter Go.Proofs.Tryd.func64 rfl Go.Proofs.Tryd.ntmps64 rfl fun a hf => ?_
 replace hf : Fr 38 [(0, .int .u64 a0)] a := hf
 unfold ref04_square.f at hp
 refine wq <| wr <| oa hf rfl rfl fun a hf => oN <| ct <| wq <| wr <| oa hf rfl rfl fun a hf => oN <| ct <| wq <| wq <| wr <| oa hf rfl rfl fun a hf => oN <| ct ?_
 obtain ⟨out178, hp, hq179⟩ := bS hp
 refine c_cutX (fun a w => ∃ y177 : Int, y177 = out178 ∧ Ok E I (F) w ∧ Fr 38 ([(3, .int .u64 y177)]) a) ?_ ?_
 ·refine wp_block <| c_loop <| c_fuel (ref04_square.l0 a0) out178 (fun (y117, y118) a w => Ok E I (F) w ∧ Fr 38 ([(0, .int .u64 a0), (3, .int .u64 y117), (4, .int .i64 y118)]) a) (fun _ => rfl) ?_ BIG (0, 36) _ _ ⟨hw, hf.to ⟨rfl, rfl, rfl, trivial⟩⟩ hp
  intro k st a w hI hp ih
  obtain ⟨y117, y118⟩ := st
  obtain ⟨hw, hf⟩ := hI
  rw [ref04_square.l0] at hp
  refine wq <| wq <| wr <| om hf rfl rfl fun a hf => oR hf (iC hf rfl rfl rfl) rfl fun a hf => oN <| ct <| cC hf rfl (fun hb181 => ?_) (fun hb181 => ?_)
  ·replace hp := cond_t hb181 hp
   refine wp_skip <| ct ?_
   obtain ⟨out219, hp, hq220⟩ := bS hp
   refine c_cut (fun a w => ∃ y218 : Int, y218 = out219 ∧ Ok E I (F) w ∧ Fr 38 ([(0, .int .u64 a0), (3, .int .u64 y218), (4, .int .i64 y118)]) a) ?_ ?_
   ·refine wp_block <| wq <| wr <| om hf rfl rfl fun a hf => om hf rfl rfl fun a hf => oR hf (r_convI hf und_3 und_56 rfl) rfl fun a hf => ?_
    obtain ⟨hg221, hp⟩ := gS hp
    refine oR hf (r_shl hf rfl rfl hg221) rfl fun a hf => oR hf (r_or hf rfl rfl) rfl fun a hf => oa hf rfl rfl fun a hf => oN <| ct <| wq <| wr <| om hf rfl rfl fun a hf => om hf rfl rfl fun a hf => ?_
    obtain ⟨y225, hy224, hp⟩ := bS hp
    obtain ⟨y222, y223⟩ := y225
    have hc226 := ref04_times_ok hw hG hy224
    refine o_call hf cb_90 rfl rfl hc226 (fun v228 w a hK227 hf => ?_)
    obtain ⟨rfl, hw⟩ := hK227
    refine om hf rfl rfl fun a hf => oR hf (rE hf rfl rfl) rfl fun a hf => oR hf (rE hf rfl rfl) rfl fun a hf => oa hf rfl rfl fun a hf => oa hf rfl rfl fun a hf => oN <| ct ?_
    obtain ⟨out234, hp, hq235⟩ := bS hp
    refine c_cut (fun a w => ∃ y233 : Bool, y233 = out234 ∧ Ok E I (F) w ∧ Fr 38 ([(0, .int .u64 a0), (3, .int .u64 y117), (4, .int .i64 y118), (5, .int .u64 (bor .u64 y117 (shl .u64 1 (wu64 y118)))), (34, .bool y233)]) a) ?_ ?_
    ·refine wr <| om hf rfl rfl fun a hf => om hf rfl rfl fun a hf => oR hf (iC hf rfl rfl rfl) rfl fun a hf => om hf rfl rfl fun a hf => g_split hf (g := 26) rfl (fun hb236 hf => ?_) (fun hb236 hf => ?_)
     ·replace hp := cond_t hb236 hp
      refine oS hf (g := 26) rfl rfl rfl rfl rfl rfl fun a hf => oS hf (g := 26) rfl rfl rfl rfl rfl rfl fun a hf => oS hf (g := 26) rfl rfl rfl rfl rfl rfl fun a hf => oS hf (g := 26) rfl rfl rfl rfl rfl rfl fun a hf => o_skipU hf (g := 30) rfl rfl rfl rfl rfl fun a hf => o_skipU hf (g := 30) rfl rfl rfl rfl rfl fun a hf => oS hf (g := 26) rfl rfl rfl rfl rfl rfl fun a hf => oR hf (pT hf rfl rfl) rfl fun a hf => oN <| ct ?_
      have ho := oI hp
      subst ho
      exact ⟨true, rfl, hw, hf.to ⟨rfl, rfl, rfl, rfl, rfl, trivial⟩⟩
     ·replace hp := cond_f hb236 hp
      refine oW hf (g := 26) rfl rfl <| om hf rfl rfl fun a hf => oW hf (g := 26) rfl rfl <| om hf rfl rfl fun a hf => oW hf (g := 26) rfl rfl <| oR hf (iC hf rfl rfl rfl) rfl fun a hf => oW hf (g := 26) rfl rfl <| om hf rfl rfl fun a hf => g_split hf (g := 30) rfl (fun hb237 hf => ?_) (fun hb237 hf => ?_)
      ·replace hp := cond_t hb237 hp
       refine oW hf (g := 30) rfl rfl <| om hf rfl rfl fun a hf => oW hf (g := 30) rfl rfl <| oR hf (iC hf rfl rfl rfl) rfl fun a hf => oW hf (g := 26) rfl rfl <| oR hf (pT hf rfl rfl) rfl fun a hf => oR hf (pF hf rfl rfl) rfl fun a hf => oN <| ct ?_
       have ho := oI hp
       subst ho
       exact ⟨(y223 == 0), rfl, hw, hf.to ⟨rfl, rfl, rfl, rfl, rfl, trivial⟩⟩
      ·replace hp := cond_f hb237 hp
       refine oS hf (g := 30) rfl rfl rfl rfl rfl rfl fun a hf => oS hf (g := 30) rfl rfl rfl rfl rfl rfl fun a hf => oW hf (g := 26) rfl rfl <| oR hf (pF hf rfl rfl) rfl fun a hf => oR hf (pF hf rfl rfl) rfl fun a hf => oN <| ct ?_
       have ho := oI hp
       subst ho
       exact ⟨false, rfl, hw, hf.to ⟨rfl, rfl, rfl, rfl, rfl, trivial⟩⟩
    ·intro a w hM
     obtain ⟨y233, rfl, hw, hf⟩ := hM
     replace hp := hq235
     refine cC hf rfl (fun hb238 => ?_) (fun hb238 => ?_)
     ·replace hp := cond_t hb238 hp
      refine wr <| om hf rfl rfl fun a hf => oa hf rfl rfl fun a hf => oN <| c_blockN <| ct ?_
      have ho := oI hp
      subst ho
      exact ⟨(bor .u64 y117 (shl .u64 1 (wu64 y118))), rfl, hw, hf.to ⟨rfl, rfl, rfl, trivial⟩⟩
     ·replace hp := cond_f hb238 hp
      refine wp_skip <| c_blockN <| ct ?_
      have ho := oI hp
      subst ho
      exact ⟨y117, rfl, hw, hf.to ⟨rfl, rfl, rfl, trivial⟩⟩
   ·intro a w hM
    obtain ⟨y218, rfl, hw, hf⟩ := hM
    replace hp := hq220
    refine wr <| om hf rfl rfl fun a hf => oR hf (r_sub hf rfl rfl) rfl fun a hf => oa hf rfl rfl fun a hf => oN <| ct ?_
    exact ih (y218, w64 (y118 - 1)) _ _ ⟨hw, hf.to ⟨rfl, rfl, rfl, trivial⟩⟩ hp
  ·replace hp := cond_f hb181 hp
   refine wp_exit <| c_thenE <| c_thenE <| c_exit <| ct ?_
   have ho := oI hp
   subst ho
   exact ⟨y117, rfl, hw, hf.to ⟨rfl, trivial⟩⟩
 ·intro a w hM
  obtain ⟨y177, rfl, hw, hf⟩ := hM
  replace hp := hq179
  refine ct <| wq <| wr <| om hf rfl rfl fun a hf => oR hf (r_convI hf und_111 und_80 rfl) rfl fun a hf => oa hf rfl rfl fun a hf => oN <| ct <| wp_ret ?_
  have ho := oI hp
  subst ho
  exact b_ret1 hf Go.Proofs.Tryd.results64 rfl ⟨_, rfl, ⟨rfl, hw⟩⟩
end Go.Lf
