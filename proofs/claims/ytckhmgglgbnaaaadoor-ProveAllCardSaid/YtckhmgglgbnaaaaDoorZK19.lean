/- The Go functions compute the plain Lean functions (printed by our lift.py). -/
import Derived.Test.YtckhmgglgbnaaaaDoorZD
import Derived.Test.YtckhmgglgbnaaaaDoorZF
import Derived.Test.YtckhmgglgbnaaaaDoorJ
import Derived.Test.YtckhmgglgbnaaaaDoorZK0
import Derived.Test.YtckhmgglgbnaaaaDoorZK3
import Derived.Test.YtckhmgglgbnaaaaDoorZK12
import Derived.Test.YtckhmgglgbnaaaaDoorZK18
set_option linter.unusedVariables false
set_option linter.unusedSimpArgs false
set_option maxHeartbeats 1000000
set_option maxRecDepth 20000
namespace Go.Lf
open Go
theorem ref12_Walk_ok {E : World} {I : IH} {F : List Atom} {w : World} {a0 : List Node} {a0v2345 : Value} {a1 : ByteArray} {res0 : List Int} {res1 : Int} (hw : Ok E I (F) w) (hG : Gl I) (hR2346 : RS ek_Node I a0v2345 a0) (hp : ref12_Walk.f a0 a1 = some (res0, res1)) :
  Calls P 36 ⟨[a0v2345, Value.string a1]⟩ w fun e w' => ∃ v, e = .returned v ∧ ∃ I2 : IH, ∃ rvv7809 : Value, v = Value.tuple ⟨[rvv7809, Value.int .i64 res1]⟩ ∧ IH.le I I2 ∧ Ok E I2 (F) w' ∧ RS (ekI .i64) I2 rvv7809 res0 := by
 refine c_enter Go.Proofs.Tryd.func36 rfl Go.Proofs.Tryd.ntmps36 rfl fun a hf => ?_
 replace hf : Fr 73 [(0, a0v2345), (1, .string a1)] a := hf
 unfold ref12_Walk.f at hp
 refine wq <| wr <| oa hf rfl rfl fun a hf => oa hf rfl rfl fun a hf => oN <| ct <| wq <| wq <| wr <| om hf rfl rfl fun a hf => ?_
 obtain ⟨y1, hy2, hp⟩ := bS hp
 have hc4 := ref10_Good_ok hw hG hR2346 hy2
 refine o_call hf cb_43 rfl rfl hc4 (fun v6 w a hK5 hf => ?_)
 obtain ⟨rfl, hw⟩ := hK5
 refine oR hf (r_not hf rfl) rfl fun a hf => oN <| ct <| cC hf rfl (fun hb7 => ?_) (fun hb7 => ?_)
 ·replace hp := cond_t hb7 hp
  refine wq <| wr <| oa hf rfl rfl fun a hf => oa hf rfl rfl fun a hf => oN <| ct <| wp_ret <| c_thenR ?_
  have ho := oI hp
  simp only [Prod.mk.injEq] at ho
  obtain ⟨rfl, rfl⟩ := ho
  exact b_ret2 hf Go.Proofs.Tryd.results36 rfl rfl ⟨_, rfl, ⟨I, (Value.slice none 0 0), rfl, (IH.le_refl _), hw, RS.nil⟩⟩
 ·replace hp := cond_f hb7 hp
  refine wp_skip <| ct <| wq <| wq <| wr <| om hf rfl rfl fun a hf => ?_
  obtain ⟨y7, hy8, hp⟩ := bS hp
  have hc10 := ref12_Key_ok hw hG hy8
  refine o_call hf cb_35 rfl rfl hc10 (fun v12 w a hK11 hf => ?_)
  obtain ⟨rfl, hw⟩ := hK11
  refine oR hf (r_not hf rfl) rfl fun a hf => oN <| ct <| cC hf rfl (fun hb13 => ?_) (fun hb13 => ?_)
  ·replace hp := cond_t hb13 hp
   refine wq <| wr <| oa hf rfl rfl fun a hf => oa hf rfl rfl fun a hf => oN <| ct <| wp_ret <| c_thenR ?_
   have ho := oI hp
   simp only [Prod.mk.injEq] at ho
   obtain ⟨rfl, rfl⟩ := ho
   exact b_ret2 hf Go.Proofs.Tryd.results36 rfl rfl ⟨_, rfl, ⟨I, (Value.slice none 0 0), rfl, (IH.le_refl _), hw, RS.nil⟩⟩
  ·replace hp := cond_f hb13 hp
   refine wp_skip <| ct <| wq <| wr <| om hf rfl rfl fun a hf => ?_
   obtain ⟨y14, hy15, hp⟩ := bS hp
   have hc17 := ref02_Of_ok hw hG hy15
   refine o_call hf cb_49 rfl rfl hc17 (fun v19 w a hK18 hf => ?_)
   obtain ⟨rfl, hw⟩ := hK18
   refine oa hf rfl rfl fun a hf => oN <| ct <| wq <| wr <| oa hf rfl rfl fun a hf => oN <| ct <| wq <| wq <| wr <| oa hf rfl rfl fun a hf => oN <| ct ?_
   replace hw := hw.nilrow 3 1
   have hRR165 : RowR (ekI .i64) I [] [] := RowR.nil
   obtain ⟨out611, hp, hq612⟩ := bS hp
   refine c_cutX (fun a w => ∃ y606 : List Int, ∃ yv607 : Value, ∃ m608 : Nat, ∃ cs609 : List Value, y606 = out611 ∧ Ok E I (.row yv607 3 1 m608 cs609 :: F) w ∧ Fr 73 ([(7, yv607)]) a ∧ RowR (ekI .i64) I cs609 y606) ?_ ?_
   ·refine wp_block <| c_loop <| c_fuel (ref12_Walk.l0 a0) out611 (fun (y457, y462, y463) a w => ∃ yv458 : Value, ∃ m459 : Nat, ∃ cs460 : List Value, Ok E I (.row yv458 3 1 m459 cs460 :: F) w ∧ Fr 73 ([(0, a0v2345), (6, .string y462), (7, yv458), (8, .int .i64 y463)]) a ∧ RowR (ekI .i64) I cs460 y457) (fun _ => rfl) ?_ BIG (([] : List Int), y14, 0) _ _ ⟨(.slice none 0 0), 0, [], hw, hf.to ⟨rfl, rfl, rfl, rfl, trivial⟩, hRR165⟩ hp
    intro k st a w hI hp ih
    obtain ⟨y457, y462, y463⟩ := st
    obtain ⟨yv458, m459, cs460, hw, hf, hRR461⟩ := hI
    rw [ref12_Walk.l0] at hp
    refine wq <| wq <| wr <| om hf rfl rfl fun a hf => om hf rfl rfl fun a hf => oR hf (r_lenL (K := ek_Node) hf el_23 rfl (hR2346.rd hw)) rfl fun a hf => oR hf (iC hf rfl rfl rfl) rfl fun a hf => oN <| ct <| cC hf rfl (fun hb614 => ?_) (fun hb614 => ?_)
    ·replace hp := cond_t hb614 hp
     refine wp_skip <| ct <| wp_block <| wq <| wr <| om hf rfl rfl fun a hf => om hf rfl rfl fun a hf => ?_
     obtain ⟨w, v615, hrun616, hw, hRR617⟩ := e_buildSlice (P := P) (K := (ekI .i64)) (m := 1) hw hf (parts := [(0, .tmp 24)]) el_70 ty_3 rfl rfl rfl (ccs := [[Value.int .i64 y463]]) rfl (xs := [y463]) ⟨rfl, trivial⟩ rfl
     obtain ⟨cs618, hcs⟩ : ∃ cs, cs = ([[Value.int .i64 y463]] : List (List Value)).flatten := ⟨_, rfl⟩
     rw [← hcs] at hw hRR617; clear hcs
     refine o_eff hf (hrun616 ..) rfl fun a hf => ?_
     obtain ⟨hg620, hp⟩ := gS hp
     obtain ⟨w, v621, m622, cs623, hrun625, hw, hRR624⟩ := e_append (P := P) (K := (ekI .i64)) (ty := 70) hw hf (s := .tmp 23) (x := .tmp 25) el_70 ty_3 rfl (by decide) 1 rfl rfl rfl hRR461 (ys := [y463]) (rR (K := (ekI .i64)) hw (i := 0) rfl hRR617) hg620
     replace hw : Ok E I (.row v615 3 1 1 cs618 :: .row v621 3 1 m622 cs623 :: F) w := hw
     refine o_eff hf (hrun625 ..) rfl fun a hf => oa hf rfl rfl fun a hf => oN <| ct <| wq <| wr <| om hf rfl rfl fun a hf => om hf rfl rfl fun a hf => ?_
     obtain ⟨hg626, hp⟩ := gS hp
     refine oR hf (rI (K := ek_Node) hf el_23 rfl rfl (hR2346.rd hw) hg626) rfl fun a hf => oR hf (r_loadHP (K := ek_Node) hf rfl ty_55 (hR2346.rd hw) hg626 rfl (vs := (Value.int .i64 ((gt a0 y463).kind_) :: Value.string ((gt a0 y463).path_) :: Value.bool ((gt a0 y463).has_) :: Value.string ((gt a0 y463).value_) :: arrC .i64 ((gt a0 y463).kids_))) (fun cs h => Node_all h) (by simp [arrC_len])) rfl fun a hf => ?_
     obtain ⟨b627, w, hrun628, hw⟩ := e_alloc (P := P) (a := a) hw ty_55
     replace hw : Ok E I (.blk b627 (.cells ⟨.int .i64 0 :: .string (⟨#[]⟩ : ByteArray) :: .bool false :: .string (⟨#[]⟩ : ByteArray) :: arrC .i64 (Vector.replicate 16 0 : Vector Int 16)⟩ 55 (0, 0)) :: .row v615 3 1 1 cs618 :: .row v621 3 1 m622 cs623 :: F) w := hw
     refine o_eff hf (hrun628 ..) rfl fun a hf => ?_
     obtain ⟨w, hrun630, hw⟩ := e_store (P := P) hw hf (x := .tmp 9) (y := .tmp 30) rfl rfl ty_55 0 rfl (vs := (Value.int .i64 ((gt a0 y463).kind_) :: Value.string ((gt a0 y463).path_) :: Value.bool ((gt a0 y463).has_) :: Value.string ((gt a0 y463).value_) :: arrC .i64 ((gt a0 y463).kids_))) rfl (by simp [arrC_len]) (oC rfl (oC rfl (oC rfl (oC rfl (arrC_one _ _))))) (by simp [arrC_len]) (cs' := (Value.int .i64 ((gt a0 y463).kind_) :: Value.string ((gt a0 y463).path_) :: Value.bool ((gt a0 y463).has_) :: Value.string ((gt a0 y463).value_) :: arrC .i64 ((gt a0 y463).kids_))) (by simp [arrC_len])
     replace hw : Ok E I (.blk b627 (.cells ⟨.int .i64 ((gt a0 y463).kind_) :: .string ((gt a0 y463).path_) :: .bool ((gt a0 y463).has_) :: .string ((gt a0 y463).value_) :: arrC .i64 ((gt a0 y463).kids_)⟩ 55 (0, 0)) :: .row v615 3 1 1 cs618 :: .row v621 3 1 m622 cs623 :: F) w := hw
     refine o_effU (hrun630 ..) <| oN <| ct <| wq <| wr <| oa hf rfl rfl fun a hf => oN <| ct ?_
     obtain ⟨out713, hp, hq714⟩ := bS hp
     refine c_cut (fun a w => ∃ y711 : Int, ∃ y712 : ByteArray, (y711, y712) = out713 ∧ Ok E I (.blk b627 (.cells ⟨.int .i64 ((gt a0 y463).kind_) :: .string ((gt a0 y463).path_) :: .bool ((gt a0 y463).has_) :: .string ((gt a0 y463).value_) :: arrC .i64 ((gt a0 y463).kids_)⟩ 55 (0, 0)) :: .row v615 3 1 1 cs618 :: .row v621 3 1 m622 cs623 :: F) w ∧ Fr 73 ([(0, a0v2345), (6, .string y712), (7, v621), (10, .int .i64 y711)]) a) ?_ ?_
     ·refine wp_block ?_
      obtain ⟨out732, hp, hq733⟩ := bS hp
      refine c_cut (fun a w => ∃ y731 : Bool, y731 = out732 ∧ Ok E I (.blk b627 (.cells ⟨.int .i64 ((gt a0 y463).kind_) :: .string ((gt a0 y463).path_) :: .bool ((gt a0 y463).has_) :: .string ((gt a0 y463).value_) :: arrC .i64 ((gt a0 y463).kids_)⟩ 55 (0, 0)) :: .row v615 3 1 1 cs618 :: .row v621 3 1 m622 cs623 :: F) w ∧ Fr 73 ([(0, a0v2345), (6, .string y462), (7, v621), (9, .pointer (some ⟨b627, 0, none⟩)), (10, .int .i64 0), (31, .bool y731)]) a) ?_ ?_
      ·refine c_drawn mix [] (.rd 0 (.rd 1 (.rd 2 (.rd 3 (.rd 4 (.rd 5 (.rd 6 (.rd 8 (.rd 9 (.rd 10 (.ef 7 (.rd 11 (.rd 12 (.rd 13 .done)))))))))))))) (by kernel_rfl) hw (fun w => Ok E I (.blk b627 (.cells ⟨.int .i64 ((gt a0 y463).kind_) :: .string ((gt a0 y463).path_) :: .bool ((gt a0 y463).has_) :: .string ((gt a0 y463).value_) :: arrC .i64 ((gt a0 y463).kids_)⟩ 55 (0, 0)) :: .row v615 3 1 1 cs618 :: .row v621 3 1 m622 cs623 :: F) w) (fun w hw => ⟨hw.sub (scc (scc (scc sr))), ?_⟩)
       refine tR rfl hf (fun w hw => rF hf rfl fd_55_0) rfl fun a hf => tR rfl hf (fun w hw => rL hw hf rfl ty_3 0 rfl rfl) rfl fun a hf => tR rfl hf (fun w hw => iC hf rfl rfl rfl) rfl fun a hf => tm rfl hf rfl rfl fun a hf => g_split hf (g := 35) rfl (fun hb735 hf => ?_) (fun hb735 hf => ?_)
       ·replace hp := cond_t hb735 hp
        refine tG rfl rfl hf rfl (fun w hw => r_move hf rfl) rfl fun a hf => tG rfl rfl hf rfl (fun w hw => rF hf rfl fd_55_1) rfl fun a hf => tG rfl rfl hf rfl (fun w hw => rL hw hf rfl ty_9 0 rfl rfl) rfl fun a hf => tG rfl rfl hf rfl (fun w hw => rF hf rfl fd_55_1) rfl fun a hf => tG rfl rfl hf rfl (fun w hw => rL hw hf rfl ty_9 0 rfl rfl) rfl fun a hf => tG rfl rfl hf rfl (fun w hw => r_lenS hf und_9 rfl) rfl fun a hf => t_ef rfl ?_
        obtain ⟨y736, hy737, hp⟩ := bS hp
        have hc739 := ref02_Common_ok hw hG hy737
        refine t_callG rfl hf rfl cb_59 rfl rfl hc739 (fun v741 w a hK740 hf => ?_)
        obtain ⟨rfl, hw⟩ := hK740
        refine ⟨.inr (hw.back (IH.le_refl _) (scc (scc (scc sr)))), ?_⟩
        refine tG rfl rfl hf rfl (fun w hw => iC hf rfl rfl rfl) rfl fun a hf => tR rfl hf (fun w hw => pT hf rfl rfl) rfl fun a hf => tR rfl hf (fun w hw => r_assign hf rfl) rfl fun a hf => t_done <| ct ?_
        have ho := oI hp
        subst ho
        exact ⟨(y736 == (((gt a0 y463).path_).size : Int)), rfl, hw, hf.to ⟨rfl, rfl, rfl, rfl, rfl, rfl, trivial⟩⟩
       ·replace hp := cond_f hb735 hp
        refine tS rfl rfl hf rfl rfl rfl fun a hf => tS rfl rfl hf rfl rfl rfl fun a hf => tS rfl rfl hf rfl rfl rfl fun a hf => tS rfl rfl hf rfl rfl rfl fun a hf => tS rfl rfl hf rfl rfl rfl fun a hf => tS rfl rfl hf rfl rfl rfl fun a hf => t_ef rfl <| t_skipE rfl hf rfl rfl rfl fun a hf => ⟨.inr (hw.back (IH.le_refl _) (scc (scc (scc sr)))), ?_⟩
        refine tS rfl rfl hf rfl rfl rfl fun a hf => tR rfl hf (fun w hw => pF hf rfl rfl) rfl fun a hf => tR rfl hf (fun w hw => r_assign hf rfl) rfl fun a hf => t_done <| ct ?_
        have ho := oI hp
        subst ho
        exact ⟨false, rfl, hw, hf.to ⟨rfl, rfl, rfl, rfl, rfl, rfl, trivial⟩⟩
      ·intro a w hM
       obtain ⟨y731, rfl, hw, hf⟩ := hM
       replace hp := hq733
       refine cC hf rfl (fun hb742 => ?_) (fun hb742 => ?_)
       ·replace hp := cond_t hb742 hp
        refine wq <| wr <| om hf rfl rfl fun a hf => oR hf (rF hf rfl fd_55_1) rfl fun a hf => oR hf (rL hw hf rfl ty_9 0 rfl rfl) rfl fun a hf => oR hf (r_lenS hf und_9 rfl) rfl fun a hf => ?_
        obtain ⟨hg743, hp⟩ := gS hp
        refine oR hf (r_sliceSl hf und_9 rfl rfl hg743) rfl fun a hf => oa hf rfl rfl fun a hf => oN <| ct <| wr <| oR hf (rF hf rfl fd_55_4) rfl fun a hf => ?_
        obtain ⟨hg744, hp⟩ := gS hp
        refine oR hf (r_indexAddrA hf el_53 rfl rfl hg744) rfl fun a hf => oR hf (rL hw hf rfl ty_3 0 rfl (arr_at (k := .i64) (v := (gt a0 y463).kids_) rfl hg744)) rfl fun a hf => oa hf rfl rfl fun a hf => oN <| c_blockN <| ct ?_
        have ho := oI hp
        subst ho
        exact ⟨(vg ((gt a0 y463).kids_) 0), (sub y462 (((gt a0 y463).path_).size : Int) (y462.size : Int)), rfl, hw, hf.to ⟨rfl, rfl, rfl, rfl, trivial⟩⟩
       ·replace hp := cond_f hb742 hp
        obtain ⟨out748, hp, hq749⟩ := bS hp
        refine c_cut (fun a w => ∃ y747 : Bool, y747 = out748 ∧ Ok E I (.blk b627 (.cells ⟨.int .i64 ((gt a0 y463).kind_) :: .string ((gt a0 y463).path_) :: .bool ((gt a0 y463).has_) :: .string ((gt a0 y463).value_) :: arrC .i64 ((gt a0 y463).kids_)⟩ 55 (0, 0)) :: .row v615 3 1 1 cs618 :: .row v621 3 1 m622 cs623 :: F) w ∧ Fr 73 ([(0, a0v2345), (6, .string y462), (7, v621), (9, .pointer (some ⟨b627, 0, none⟩)), (10, .int .i64 0), (53, .bool y747)]) a) ?_ ?_
        ·refine wr <| oR hf (rF hf rfl fd_55_0) rfl fun a hf => oR hf (rL hw hf rfl ty_3 0 rfl rfl) rfl fun a hf => oR hf (iC hf rfl rfl rfl) rfl fun a hf => om hf rfl rfl fun a hf => g_split hf (g := 57) rfl (fun hb750 hf => ?_) (fun hb750 hf => ?_)
         ·replace hp := cond_t hb750 hp
          refine oW hf (g := 57) rfl rfl <| om hf rfl rfl fun a hf => oW hf (g := 57) rfl rfl <| oR hf (r_lenS hf und_9 rfl) rfl fun a hf => oW hf (g := 57) rfl rfl <| oR hf (iC hf rfl rfl rfl) rfl fun a hf => oR hf (pT hf rfl rfl) rfl fun a hf => oa hf rfl rfl fun a hf => oN <| ct ?_
          have ho := oI hp
          subst ho
          exact ⟨(decide ((y462.size : Int) > 0)), rfl, hw, hf.to ⟨rfl, rfl, rfl, rfl, rfl, rfl, trivial⟩⟩
         ·replace hp := cond_f hb750 hp
          refine oS hf (g := 57) rfl rfl rfl rfl rfl rfl fun a hf => oS hf (g := 57) rfl rfl rfl rfl rfl rfl fun a hf => oS hf (g := 57) rfl rfl rfl rfl rfl rfl fun a hf => oR hf (pF hf rfl rfl) rfl fun a hf => oa hf rfl rfl fun a hf => oN <| ct ?_
          have ho := oI hp
          subst ho
          exact ⟨false, rfl, hw, hf.to ⟨rfl, rfl, rfl, rfl, rfl, rfl, trivial⟩⟩
        ·intro a w hM
         obtain ⟨y747, rfl, hw, hf⟩ := hM
         replace hp := hq749
         refine cC hf rfl (fun hb751 => ?_) (fun hb751 => ?_)
         ·replace hp := cond_t hb751 hp
          refine wq <| wr <| om hf rfl rfl fun a hf => ?_
          obtain ⟨hg752, hp⟩ := gS hp
          refine oR hf (r_indexS hf und_9 rfl rfl hg752) rfl fun a hf => oR hf (rF hf rfl fd_55_4) rfl fun a hf => ?_
          obtain ⟨hg753, hp⟩ := gS hp
          refine oR hf (r_indexAddrA hf el_53 rfl rfl hg753) rfl fun a hf => oR hf (rL hw hf rfl ty_3 0 rfl (arr_at (k := .i64) (v := (gt a0 y463).kids_) rfl hg753)) rfl fun a hf => oa hf rfl rfl fun a hf => oN <| ct <| wr <| om hf rfl rfl fun a hf => ?_
          obtain ⟨hg754, hp⟩ := gS hp
          refine oR hf (r_sliceSl hf und_9 rfl rfl hg754) rfl fun a hf => oa hf rfl rfl fun a hf => oN <| c_blockN <| ct ?_
          have ho := oI hp
          subst ho
          exact ⟨(vg ((gt a0 y463).kids_) (bt y462 0)), (sub y462 1 (y462.size : Int)), rfl, hw, hf.to ⟨rfl, rfl, rfl, rfl, trivial⟩⟩
         ·replace hp := cond_f hb751 hp
          refine wp_skip <| c_blockN <| ct ?_
          have ho := oI hp
          subst ho
          exact ⟨0, y462, rfl, hw, hf.to ⟨rfl, rfl, rfl, rfl, trivial⟩⟩
     ·intro a w hM
      obtain ⟨y711, y712, rfl, hw, hf⟩ := hM
      replace hp := hq714
      refine wq <| wq <| wr <| om hf rfl rfl fun a hf => oR hf (iC hf rfl rfl rfl) rfl fun a hf => oN <| ct <| cC hf rfl (fun hb755 => ?_) (fun hb755 => ?_)
      ·replace hp := cond_t hb755 hp
       refine wp_exit <| c_thenE <| c_exitNe rfl <| c_thenE <| c_exit <| ct ?_
       have ho := oI hp
       subst ho
       replace hw : Ok E I (.row v621 3 1 m622 cs623 :: F) w := hw.sub (sc (sc (scc sr)))
       exact ⟨(y457 ++ [y463]), v621, m622, cs623, rfl, hw, hf.to ⟨rfl, trivial⟩, hRR624⟩
      ·replace hp := cond_f hb755 hp
       refine wp_skip <| ct <| wr <| om hf rfl rfl fun a hf => oa hf rfl rfl fun a hf => oN <| c_blockN <| ct ?_
       replace hw : Ok E I (.row v621 3 1 m622 cs623 :: F) w := hw.sub (sc (sc (scc sr)))
       exact ih (y457 ++ [y463], y712, y711) _ _ ⟨v621, m622, cs623, hw, hf.to ⟨rfl, rfl, rfl, rfl, trivial⟩, hRR624⟩ hp
    ·replace hp := cond_f hb614 hp
     refine wp_exit <| c_thenE <| c_thenE <| c_exit <| ct ?_
     have ho := oI hp
     subst ho
     exact ⟨y457, yv458, m459, cs460, rfl, hw, hf.to ⟨rfl, trivial⟩, hRR461⟩
   ·intro a w hM
    obtain ⟨y606, yv607, m608, cs609, rfl, hw, hf, hRR610⟩ := hM
    replace hp := hq612
    refine ct <| wq <| wr <| om hf rfl rfl fun a hf => oa hf rfl rfl fun a hf => oa hf rfl rfl fun a hf => oN <| ct <| wp_ret ?_
    have hw : Ok E I (.row yv607 3 1 m608 cs609 :: F) w := hw.front (i := 0) rfl
    obtain ⟨I757, hle758, hw, hR759⟩ := row_freeze (K := (ekI .i64)) hw hRR610
    replace hG := hG.mono hle758
    have ho := oI hp
    simp only [Prod.mk.injEq] at ho
    obtain ⟨rfl, rfl⟩ := ho
    exact b_ret2 hf Go.Proofs.Tryd.results36 rfl rfl ⟨_, rfl, ⟨I757, yv607, rfl, hle758, hw, hR759⟩⟩

theorem node_reader_take_ok {E : World} {I : IH} {F : List Atom} {w : World} {a0b : Nat} {a0_p_s : ByteArray} {a1 : Int} {res0 : ByteArray} {new_a0_p_s : ByteArray} (hw : Ok E I (.blk a0b (.cells ⟨[Value.string a0_p_s]⟩ 135 (0, 0)) :: F) w) (hG : Gl I) (hp : node_reader_take.f a0_p_s a1 = some (res0, new_a0_p_s)) :
  Calls P 83 ⟨[Value.pointer (some ⟨a0b, 0, none⟩), Value.int .i64 a1]⟩ w fun e w' => ∃ v, e = .returned v ∧ v = Value.string res0 ∧ Ok E I (.blk a0b (.cells ⟨[Value.string new_a0_p_s]⟩ 135 (0, 0)) :: F) w' := by
 refine c_enter Go.Proofs.Tryd.func83 rfl Go.Proofs.Tryd.ntmps83 rfl fun a hf => ?_
 replace hf : Fr 29 [(0, .pointer (some ⟨a0b, 0, none⟩)), (1, .int .i64 a1)] a := hf
 unfold node_reader_take.f at hp
 refine wq <| wr <| oa hf rfl rfl fun a hf => oN <| ct <| wq <| wr <| om hf rfl rfl fun a hf => om hf rfl rfl fun a hf => oR hf (nC hf rfl) rfl fun a hf => oR hf (rF hf rfl fd_135_0) rfl fun a hf => oR hf (rL hw hf rfl ty_9 0 rfl rfl) rfl fun a hf => oR hf (r_lenS hf und_9 rfl) rfl fun a hf => oR hf (r_min hf rfl rfl) rfl fun a hf => oa hf rfl rfl fun a hf => oN ?_
 refine ct <| wq <| wr <| om hf rfl rfl fun a hf => oR hf (nC hf rfl) rfl fun a hf => oR hf (rF hf rfl fd_135_0) rfl fun a hf => oR hf (rL hw hf rfl ty_9 0 rfl rfl) rfl fun a hf => om hf rfl rfl fun a hf => ?_
 obtain ⟨hg1, hp⟩ := gS hp
 refine oR hf (r_sliceSh hf und_9 rfl rfl hg1) rfl fun a hf => oa hf rfl rfl fun a hf => oN <| ct <| wq <| wr <| om hf rfl rfl fun a hf => om hf rfl rfl fun a hf => oR hf (nC hf rfl) rfl fun a hf => oR hf (rF hf rfl fd_135_0) rfl fun a hf => oR hf (rL hw hf rfl ty_9 0 rfl rfl) rfl fun a hf => om hf rfl rfl fun a hf => ?_
 obtain ⟨hg2, hp⟩ := gS hp
 refine oR hf (r_sliceSl hf und_9 rfl rfl hg2) rfl fun a hf => oR hf (nC hf rfl) rfl fun a hf => oR hf (rF hf rfl fd_135_0) rfl fun a hf => ?_
 obtain ⟨w, hrun3, hw⟩ := e_store (P := P) hw hf (x := .tmp 27) (y := .tmp 25) rfl rfl ty_9 0 rfl (vs := [Value.string (sub a0_p_s (if (a0_p_s.size : Int) < a1 then (a0_p_s.size : Int) else a1) (a0_p_s.size : Int))]) (oE rfl) rfl (oC rfl ones_nil) (by simp [arrC_len]) (cs' := [Value.string (sub a0_p_s (if (a0_p_s.size : Int) < a1 then (a0_p_s.size : Int) else a1) (a0_p_s.size : Int))]) rfl
 replace hw : Ok E I (.blk a0b (.cells ⟨[.string (sub a0_p_s (if (a0_p_s.size : Int) < a1 then (a0_p_s.size : Int) else a1) (a0_p_s.size : Int))]⟩ 135 (0, 0)) :: F) w := hw
 refine o_effU (hrun3 ..) <| oN <| ct <| wq <| wr <| om hf rfl rfl fun a hf => oa hf rfl rfl fun a hf => oN <| ct <| wp_ret ?_
 have ho := oI hp
 simp only [Prod.mk.injEq] at ho
 obtain ⟨rfl, rfl⟩ := ho
 exact b_ret1 hf Go.Proofs.Tryd.results83 rfl ⟨_, rfl, ⟨rfl, hw⟩⟩

theorem node_reader_number_ok {E : World} {I : IH} {F : List Atom} {w : World} {a0b : Nat} {a0_p_s : ByteArray} {res0 : Int} {new_a0_p_s : ByteArray} (hw : Ok E I (.blk a0b (.cells ⟨[Value.string a0_p_s]⟩ 135 (0, 0)) :: F) w) (hG : Gl I) (hp : node_reader_number.f a0_p_s = some (res0, new_a0_p_s)) :
  Calls P 81 ⟨[Value.pointer (some ⟨a0b, 0, none⟩)]⟩ w fun e w' => ∃ v, e = .returned v ∧ v = Value.int .i64 res0 ∧ Ok E I (.blk a0b (.cells ⟨[Value.string new_a0_p_s]⟩ 135 (0, 0)) :: F) w' := by
 refine c_enter Go.Proofs.Tryd.func81 rfl Go.Proofs.Tryd.ntmps81 rfl fun a hf => ?_
 replace hf : Fr 11 [(0, .pointer (some ⟨a0b, 0, none⟩))] a := hf
 unfold node_reader_number.f at hp
 refine wq <| wr <| oa hf rfl rfl fun a hf => oN <| ct <| wq <| wq <| wr <| om hf rfl rfl fun a hf => ?_
 replace hw : Ok E I (.blk a0b (.cells ⟨[.string a0_p_s]⟩ 135 (0, 0)) :: F) w := hw.front (i := 0) rfl
 obtain ⟨y4, hy3, hp⟩ := bS hp
 obtain ⟨y1, y2⟩ := y4
 have hc5 := node_reader_take_ok hw hG hy3
 refine o_call hf cb_83 rfl rfl hc5 (fun v7 w a hK6 hf => ?_)
 obtain ⟨rfl, hw⟩ := hK6
 refine oa hf rfl rfl fun a hf => oN <| ct <| wq <| wr <| om hf rfl rfl fun a hf => oR hf (r_scmp hf rfl rfl rfl) rfl fun a hf => oN <| ct <| cC hf rfl (fun hb8 => ?_) (fun hb8 => ?_)
 ·replace hp := cond_t hb8 hp
  refine wq <| wr <| om hf rfl rfl fun a hf => ?_
  obtain ⟨hg9, hp⟩ := gS hp
  refine oR hf (r_indexS hf und_9 rfl rfl hg9) rfl fun a hf => oR hf (r_convI hf und_5 und_3 rfl) rfl fun a hf => oa hf rfl rfl fun a hf => oN <| ct <| wp_ret <| c_thenR ?_
  have ho := oI hp
  simp only [Prod.mk.injEq] at ho
  obtain ⟨rfl, rfl⟩ := ho
  exact b_ret1 hf Go.Proofs.Tryd.results81 rfl ⟨_, rfl, ⟨rfl, hw⟩⟩
 ·replace hp := cond_f hb8 hp
  refine wp_skip <| ct <| wq <| wr <| oa hf rfl rfl fun a hf => oN <| ct <| wp_ret ?_
  have ho := oI hp
  simp only [Prod.mk.injEq] at ho
  obtain ⟨rfl, rfl⟩ := ho
  exact b_ret1 hf Go.Proofs.Tryd.results81 rfl ⟨_, rfl, ⟨rfl, hw⟩⟩

theorem nibble_Unpack_ok {E : World} {I : IH} {F : List Atom} {w : World} {a0 : ByteArray} {res0 : ByteArray} {res1 : Int} {res2 : Bool} (hw : Ok E I (F) w) (hG : Gl I) (hp : nibble_Unpack.f a0 = some (res0, res1, res2)) :
  Calls P 102 ⟨[Value.string a0]⟩ w fun e w' => ∃ v, e = .returned v ∧ v = Value.tuple ⟨[Value.string res0, Value.int .i64 res1, Value.bool res2]⟩ ∧ Ok E I (F) w' := by
 refine c_enter Go.Proofs.Tryd.func102 rfl Go.Proofs.Tryd.ntmps102 rfl fun a hf => ?_
 replace hf : Fr 44 [(0, .string a0)] a := hf
 unfold nibble_Unpack.f at hp
 refine wq <| wr <| oa hf rfl rfl fun a hf => oa hf rfl rfl fun a hf => oa hf rfl rfl fun a hf => oN <| ct <| wq ?_
 obtain ⟨out16, hp, hq17⟩ := bS hp
 refine c_cut (fun a w => ∃ y15 : Bool, y15 = out16 ∧ Ok E I (F) w ∧ Fr 44 ([(0, .string a0), (14, .bool y15)]) a) ?_ ?_
 ·refine wr <| om hf rfl rfl fun a hf => oR hf (r_scmp hf rfl rfl rfl) rfl fun a hf => om hf rfl rfl fun a hf => g_split hf (g := 9) rfl (fun hb18 hf => ?_) (fun hb18 hf => ?_)
  ·replace hp := cond_t hb18 hp
   refine oS hf (g := 9) rfl rfl rfl rfl rfl rfl fun a hf => oS hf (g := 9) rfl rfl rfl rfl rfl rfl fun a hf => oS hf (g := 9) rfl rfl rfl rfl rfl rfl fun a hf => oS hf (g := 9) rfl rfl rfl rfl rfl rfl fun a hf => oR hf (pT hf rfl rfl) rfl fun a hf => oN <| ct ?_
   have ho := oI hp
   subst ho
   exact ⟨true, rfl, hw, hf.to ⟨rfl, rfl, trivial⟩⟩
  ·replace hp := cond_f hb18 hp
   refine oW hf (g := 9) rfl rfl <| om hf rfl rfl fun a hf => ?_
   obtain ⟨hg19, hp⟩ := gS hp
   refine oW hf (g := 9) rfl rfl <| oR hf (r_indexS hf und_9 rfl rfl hg19) rfl fun a hf => oW hf (g := 9) rfl rfl <| oR hf (r_convI hf und_5 und_3 rfl) rfl fun a hf => oW hf (g := 9) rfl rfl <| oR hf (iC hf rfl rfl rfl) rfl fun a hf => oR hf (pF hf rfl rfl) rfl fun a hf => oN <| ct ?_
   have ho := oI hp
   subst ho
   exact ⟨(decide ((w64 (bt a0 0)) > 16)), rfl, hw, hf.to ⟨rfl, rfl, trivial⟩⟩
 ·intro a w hM
  obtain ⟨y15, rfl, hw, hf⟩ := hM
  replace hp := hq17
  refine cC hf rfl (fun hb20 => ?_) (fun hb20 => ?_)
  ·replace hp := cond_t hb20 hp
   refine wq <| wr <| oa hf rfl rfl fun a hf => oa hf rfl rfl fun a hf => oa hf rfl rfl fun a hf => oN <| ct <| wp_ret <| c_thenR ?_
   have ho := oI hp
   simp only [Prod.mk.injEq] at ho
   obtain ⟨rfl, rfl, rfl⟩ := ho
   exact b_ret3 hf Go.Proofs.Tryd.results102 rfl rfl rfl ⟨_, rfl, ⟨rfl, hw⟩⟩
  ·replace hp := cond_f hb20 hp
   refine wp_skip <| ct <| wq <| wr <| om hf rfl rfl fun a hf => ?_
   obtain ⟨hg21, hp⟩ := gS hp
   refine oR hf (r_indexS hf und_9 rfl rfl hg21) rfl fun a hf => oR hf (r_convI hf und_5 und_3 rfl) rfl fun a hf => oa hf rfl rfl fun a hf => oN <| ct <| wq <| wr <| om hf rfl rfl fun a hf => oR hf (r_add hf rfl rfl) rfl fun a hf => oR hf (r_quo hf rfl rfl (by decide)) rfl fun a hf => oR hf (r_add hf rfl rfl) rfl fun a hf => oa hf rfl rfl fun a hf => oN <| ct <| wq <| wq ?_
   refine wr <| om hf rfl rfl fun a hf => om hf rfl rfl fun a hf => oR hf (r_lenS hf und_9 rfl) rfl fun a hf => oR hf (iC hf rfl rfl rfl) rfl fun a hf => oN <| ct <| cC hf rfl (fun hb22 => ?_) (fun hb22 => ?_)
   ·replace hp := cond_t hb22 hp
    refine wq <| wr <| oa hf rfl rfl fun a hf => oa hf rfl rfl fun a hf => oa hf rfl rfl fun a hf => oN <| ct <| wp_ret <| c_thenR ?_
    have ho := oI hp
    simp only [Prod.mk.injEq] at ho
    obtain ⟨rfl, rfl, rfl⟩ := ho
    exact b_ret3 hf Go.Proofs.Tryd.results102 rfl rfl rfl ⟨_, rfl, ⟨rfl, hw⟩⟩
   ·replace hp := cond_f hb22 hp
    refine wp_skip <| ct <| wq <| wr <| om hf rfl rfl fun a hf => om hf rfl rfl fun a hf => ?_
    obtain ⟨hg23, hp⟩ := gS hp
    refine oR hf (r_sliceS hf und_9 rfl rfl rfl hg23) rfl fun a hf => ?_
    obtain ⟨y24, hy25, hp⟩ := bS hp
    have hc27 := nibble_Of_ok hw hG hy25
    refine o_call hf cb_100 rfl rfl hc27 (fun v29 w a hK28 hf => ?_)
    obtain ⟨rfl, hw⟩ := hK28
    refine oa hf rfl rfl fun a hf => oN <| ct <| wq ?_
    obtain ⟨out45, hp, hq46⟩ := bS hp
    refine c_cut (fun a w => ∃ y44 : Bool, y44 = out45 ∧ Ok E I (F) w ∧ Fr 44 ([(3, .int .i64 (w64 (1 + (w64 ((w64 ((w64 (bt a0 0)) + 1)).tdiv 2))))), (5, .int .i64 (w64 (bt a0 0))), (6, .string y24), (39, .bool y44)]) a) ?_ ?_
    ·refine wr <| om hf rfl rfl fun a hf => om hf rfl rfl fun a hf => oR hf (r_lenS hf und_9 rfl) rfl fun a hf => oR hf (iC hf rfl rfl rfl) rfl fun a hf => om hf rfl rfl fun a hf => g_split hf (g := 34) rfl (fun hb47 hf => ?_) (fun hb47 hf => ?_)
     ·replace hp := cond_t hb47 hp
      refine oW hf (g := 34) rfl rfl <| om hf rfl rfl fun a hf => oW hf (g := 34) rfl rfl <| om hf rfl rfl fun a hf => ?_
      obtain ⟨hg48, hp⟩ := gS hp
      refine oW hf (g := 34) rfl rfl <| oR hf (r_indexS hf und_9 rfl rfl hg48) rfl fun a hf => oW hf (g := 34) rfl rfl <| oR hf (iC hf rfl rfl rfl) rfl fun a hf => oR hf (pT hf rfl rfl) rfl fun a hf => oN <| ct ?_
      have ho := oI hp
      subst ho
      exact ⟨((bt y24 (w64 (bt a0 0))) != 0), rfl, hw, hf.to ⟨rfl, rfl, rfl, rfl, trivial⟩⟩
     ·replace hp := cond_f hb47 hp
      refine oS hf (g := 34) rfl rfl rfl rfl rfl rfl fun a hf => oS hf (g := 34) rfl rfl rfl rfl rfl rfl fun a hf => oS hf (g := 34) rfl rfl rfl rfl rfl rfl fun a hf => oS hf (g := 34) rfl rfl rfl rfl rfl rfl fun a hf => oR hf (pF hf rfl rfl) rfl fun a hf => oN <| ct ?_
      have ho := oI hp
      subst ho
      exact ⟨false, rfl, hw, hf.to ⟨rfl, rfl, rfl, rfl, trivial⟩⟩
    ·intro a w hM
     obtain ⟨y44, rfl, hw, hf⟩ := hM
     replace hp := hq46
     refine cC hf rfl (fun hb49 => ?_) (fun hb49 => ?_)
     ·replace hp := cond_t hb49 hp
      refine wq <| wr <| oa hf rfl rfl fun a hf => oa hf rfl rfl fun a hf => oa hf rfl rfl fun a hf => oN <| ct <| wp_ret <| c_thenR ?_
      have ho := oI hp
      simp only [Prod.mk.injEq] at ho
      obtain ⟨rfl, rfl, rfl⟩ := ho
      exact b_ret3 hf Go.Proofs.Tryd.results102 rfl rfl rfl ⟨_, rfl, ⟨rfl, hw⟩⟩
     ·replace hp := cond_f hb49 hp
      refine wp_skip <| ct <| wq <| wr <| om hf rfl rfl fun a hf => om hf rfl rfl fun a hf => ?_
      obtain ⟨hg50, hp⟩ := gS hp
      refine oR hf (r_sliceSh hf und_9 rfl rfl hg50) rfl fun a hf => om hf rfl rfl fun a hf => oa hf rfl rfl fun a hf => oa hf rfl rfl fun a hf => oa hf rfl rfl fun a hf => oN <| ct <| wp_ret ?_
      have ho := oI hp
      simp only [Prod.mk.injEq] at ho
      obtain ⟨rfl, rfl, rfl⟩ := ho
      exact b_ret3 hf Go.Proofs.Tryd.results102 rfl rfl rfl ⟨_, rfl, ⟨rfl, hw⟩⟩

theorem node_reader_path_ok {E : World} {I : IH} {F : List Atom} {w : World} {a0b : Nat} {a0_p_s : ByteArray} {res0 : ByteArray} {new_a0_p_s : ByteArray} (hw : Ok E I (.blk a0b (.cells ⟨[Value.string a0_p_s]⟩ 135 (0, 0)) :: F) w) (hG : Gl I) (hp : node_reader_path.f a0_p_s = some (res0, new_a0_p_s)) :
  Calls P 82 ⟨[Value.pointer (some ⟨a0b, 0, none⟩)]⟩ w fun e w' => ∃ v, e = .returned v ∧ v = Value.string res0 ∧ Ok E I (.blk a0b (.cells ⟨[Value.string new_a0_p_s]⟩ 135 (0, 0)) :: F) w' := by
 refine c_enter Go.Proofs.Tryd.func82 rfl Go.Proofs.Tryd.ntmps82 rfl fun a hf => ?_
 replace hf : Fr 19 [(0, .pointer (some ⟨a0b, 0, none⟩))] a := hf
 unfold node_reader_path.f at hp
 refine wq <| wr <| oa hf rfl rfl fun a hf => oN <| ct <| wq <| wr <| om hf rfl rfl fun a hf => oR hf (nC hf rfl) rfl fun a hf => oR hf (rF hf rfl fd_135_0) rfl fun a hf => oR hf (rL hw hf rfl ty_9 0 rfl rfl) rfl fun a hf => ?_
 obtain ⟨y5, hy4, hp⟩ := bS hp
 obtain ⟨y1, y2, y3⟩ := y5
 have hc6 := nibble_Unpack_ok hw hG hy4
 refine o_call hf cb_102 rfl rfl hc6 (fun v8 w a hK7 hf => ?_)
 obtain ⟨rfl, hw⟩ := hK7
 refine om hf rfl rfl fun a hf => oR hf (rE hf rfl rfl) rfl fun a hf => oR hf (rE hf rfl rfl) rfl fun a hf => oR hf (rE hf rfl rfl) rfl fun a hf => oa hf rfl rfl fun a hf => oa hf rfl rfl fun a hf => oa hf rfl rfl fun a hf => oN <| ct <| wq <| wr <| om hf rfl rfl fun a hf => om hf rfl rfl fun a hf => ?_
 replace hw : Ok E I (.blk a0b (.cells ⟨[.string a0_p_s]⟩ 135 (0, 0)) :: F) w := hw.front (i := 0) rfl
 obtain ⟨y12, hy11, hp⟩ := bS hp
 obtain ⟨y9, y10⟩ := y12
 have hc13 := node_reader_take_ok hw hG hy11
 refine o_call hf cb_83 rfl rfl hc13 (fun v15 w a hK14 hf => ?_)
 obtain ⟨rfl, hw⟩ := hK14
 refine oN <| ct <| wq <| wr <| om hf rfl rfl fun a hf => oa hf rfl rfl fun a hf => oN <| ct <| wp_ret ?_
 have ho := oI hp
 simp only [Prod.mk.injEq] at ho
 obtain ⟨rfl, rfl⟩ := ho
 exact b_ret1 hf Go.Proofs.Tryd.results82 rfl ⟨_, rfl, ⟨rfl, hw⟩⟩

theorem node_reader_rest_ok {E : World} {I : IH} {F : List Atom} {w : World} {a0b : Nat} {a0_p_s : ByteArray} {res0 : List ByteArray} {new_a0_p_s : ByteArray} (hw : Ok E I (.blk a0b (.cells ⟨[Value.string a0_p_s]⟩ 135 (0, 0)) :: F) w) (hG : Gl I) (hp : node_reader_rest.f a0_p_s = some (res0, new_a0_p_s)) :
  Calls P 84 ⟨[Value.pointer (some ⟨a0b, 0, none⟩)]⟩ w fun e w' => ∃ v, e = .returned v ∧ ∃ I2 : IH, ∃ rvv7811 : Value, v = rvv7811 ∧ IH.le I I2 ∧ Ok E I2 (.blk a0b (.cells ⟨[Value.string new_a0_p_s]⟩ 135 (0, 0)) :: F) w' ∧ RS ekS I2 rvv7811 res0 := by
 refine c_enter Go.Proofs.Tryd.func84 rfl Go.Proofs.Tryd.ntmps84 rfl fun a hf => ?_
 replace hf : Fr 15 [(0, .pointer (some ⟨a0b, 0, none⟩))] a := hf
 unfold node_reader_rest.f at hp
 refine wq <| wr <| oa hf rfl rfl fun a hf => oN <| ct <| wq <| wr <| oa hf rfl rfl fun a hf => oN <| ct <| wq ?_
 replace hw := hw.nilrow 9 1
 have hRR23 : RowR ekS I [] [] := RowR.nil
 obtain ⟨out99, hp, hq100⟩ := bS hp
 refine c_cutX (fun a w => ∃ y93 : List ByteArray, ∃ y98 : ByteArray, ∃ yv94 : Value, ∃ m95 : Nat, ∃ cs96 : List Value, (y93, y98) = out99 ∧ Ok E I (.row yv94 9 1 m95 cs96 :: .blk a0b (.cells ⟨[.string y98]⟩ 135 (0, 0)) :: F) w ∧ Fr 15 ([(3, yv94)]) a ∧ RowR ekS I cs96 y93) ?_ ?_
 ·refine wp_block <| c_loop <| c_fuel (node_reader_rest.l0) out99 (fun (y68, y73) a w => ∃ yv69 : Value, ∃ m70 : Nat, ∃ cs71 : List Value, Ok E I (.row yv69 9 1 m70 cs71 :: .blk a0b (.cells ⟨[.string y73]⟩ 135 (0, 0)) :: F) w ∧ Fr 15 ([(0, .pointer (some ⟨a0b, 0, none⟩)), (3, yv69)]) a ∧ RowR ekS I cs71 y68) (fun _ => rfl) ?_ BIG (([] : List ByteArray), a0_p_s) _ _ ⟨(.slice none 0 0), 0, [], hw, hf.to ⟨rfl, rfl, trivial⟩, hRR23⟩ hp
  intro k st a w hI hp ih
  obtain ⟨y68, y73⟩ := st
  obtain ⟨yv69, m70, cs71, hw, hf, hRR72⟩ := hI
  rw [node_reader_rest.l0] at hp
  refine wq <| wq <| wr <| om hf rfl rfl fun a hf => oR hf (nC hf rfl) rfl fun a hf => oR hf (rF hf rfl fd_135_0) rfl fun a hf => oR hf (rL hw hf rfl ty_9 1 rfl rfl) rfl fun a hf => oR hf (r_scmp hf rfl rfl rfl) rfl fun a hf => oN <| ct <| cC hf rfl (fun hb102 => ?_) (fun hb102 => ?_)
  ·replace hp := cond_t hb102 hp
   refine wp_skip <| ct <| wp_block <| wr <| om hf rfl rfl fun a hf => om hf rfl rfl fun a hf => ?_
   replace hw : Ok E I (.blk a0b (.cells ⟨[.string y73]⟩ 135 (0, 0)) :: .row yv69 9 1 m70 cs71 :: F) w := hw.front (i := 1) rfl
   obtain ⟨y106, hy105, hp⟩ := bS hp
   obtain ⟨y103, y104⟩ := y106
   have hc107 := node_reader_take_ok hw hG hy105
   refine o_call hf cb_83 rfl rfl hc107 (fun v109 w a hK108 hf => ?_)
   obtain ⟨rfl, hw⟩ := hK108
   obtain ⟨w, v110, hrun111, hw, hRR112⟩ := e_buildSlice (P := P) (K := ekS) (m := 1) hw hf (parts := [(0, .tmp 11)]) el_28 ty_9 rfl rfl rfl (ccs := [[Value.string y103]]) rfl (xs := [y103]) ⟨rfl, trivial⟩ rfl
   obtain ⟨cs113, hcs⟩ : ∃ cs, cs = ([[Value.string y103]] : List (List Value)).flatten := ⟨_, rfl⟩
   rw [← hcs] at hw hRR112; clear hcs
   refine o_eff hf (hrun111 ..) rfl fun a hf => ?_
   obtain ⟨hg115, hp⟩ := gS hp
   obtain ⟨w, v116, m117, cs118, hrun120, hw, hRR119⟩ := e_append (P := P) (K := ekS) (ty := 28) hw hf (s := .tmp 9) (x := .tmp 12) el_28 ty_9 rfl (by decide) 2 rfl rfl rfl hRR72 (ys := [y103]) (rR (K := ekS) hw (i := 0) rfl hRR112) hg115
   replace hw : Ok E I (.row v110 9 1 1 cs113 :: .blk a0b (.cells ⟨[.string y104]⟩ 135 (0, 0)) :: .row v116 9 1 m117 cs118 :: F) w := hw
   refine o_eff hf (hrun120 ..) rfl fun a hf => oa hf rfl rfl fun a hf => oN <| c_blockN <| ct ?_
   replace hw : Ok E I (.blk a0b (.cells ⟨[.string y104]⟩ 135 (0, 0)) :: .row v110 9 1 1 cs113 :: .row v116 9 1 m117 cs118 :: F) w := hw.front (i := 1) rfl
   replace hw : Ok E I (.row v116 9 1 m117 cs118 :: .blk a0b (.cells ⟨[.string y104]⟩ 135 (0, 0)) :: .row v110 9 1 1 cs113 :: F) w := hw.front (i := 2) rfl
   replace hw : Ok E I (.row v116 9 1 m117 cs118 :: .blk a0b (.cells ⟨[.string y104]⟩ 135 (0, 0)) :: F) w := hw.sub (scc (scc (sc sr)))
   exact ih (y68 ++ [y103], y104) _ _ ⟨v116, m117, cs118, hw, hf.to ⟨rfl, rfl, trivial⟩, hRR119⟩ hp
  ·replace hp := cond_f hb102 hp
   refine wp_exit <| c_thenE <| c_thenE <| c_exit <| ct ?_
   have ho := oI hp
   subst ho
   exact ⟨y68, y73, yv69, m70, cs71, rfl, hw, hf.to ⟨rfl, trivial⟩, hRR72⟩
 ·intro a w hM
  obtain ⟨y93, y98, yv94, m95, cs96, rfl, hw, hf, hRR97⟩ := hM
  replace hp := hq100
  refine ct <| wq <| wr <| om hf rfl rfl fun a hf => oa hf rfl rfl fun a hf => oN <| ct <| wp_ret ?_
  have hw : Ok E I (.row yv94 9 1 m95 cs96 :: .blk a0b (.cells ⟨[Value.string y98]⟩ 135 (0, 0)) :: F) w := hw.front (i := 0) rfl
  obtain ⟨I122, hle123, hw, hR124⟩ := row_freeze (K := ekS) hw hRR97
  replace hG := hG.mono hle123
  have ho := oI hp
  simp only [Prod.mk.injEq] at ho
  obtain ⟨rfl, rfl⟩ := ho
  exact b_ret1 hf Go.Proofs.Tryd.results84 rfl ⟨_, rfl, ⟨I122, yv94, rfl, hle123, hw, hR124⟩⟩
end Go.Lf
