import Derived.Test.YtckhmgglgbnaaaaZD
import Derived.Test.YtckhmgglgbnaaaaZF
import Derived.Test.YtckhmgglgbnaaaaUB
import Derived.Test.YtckhmgglgbnaaaaN
import Derived.Test.YtckhmgglgbnaaaaBL
set_option linter.unusedVariables false
set_option linter.unusedSimpArgs false
set_option maxHeartbeats 1000000
set_option maxRecDepth 20000
namespace Go.Lf
open Go Go.Proofs.Try
theorem ref02_Key_ok {E : World} {I : IH} {F : List Atom} {w : World} {a0 : ByteArray} {res0 : ref02_Text_T} (hw : Ok E I (F) w) (hp : ref02_Key.f a0 = some res0) :
  Calls P 62 ⟨[Value.string a0]⟩ w fun e w' => ∃ v, e = .returned v ∧ v = Value.agg ⟨[Value.string res0.s_, Value.bool res0.ok_]⟩ ∧ Ok E I (F) w' := by
 refine c_enter func62 rfl ntmps62 rfl fun a hf => ?_
 replace hf : Fr 40 [(0, .string a0)] a := hf
 unfold ref02_Key.f at hp
 refine wq <| wr ?_
 obtain ⟨b1, w, hrun2, hw⟩ := e_alloc (P := P) (a := a) hw ty_126
 refine o_eff hf (hrun2 ..) rfl fun a hf => oN <| ct <| wq <| wr <| oa hf rfl rfl fun a hf => oN <| ct <| wq <| wq <| wr <| oa hf rfl rfl fun a hf => oN <| ct ?_
 replace hw := hw.nilrow 5 1
 have hRR168 : RowR (ekI .u8) I [] [] := RowR.nil
 obtain ⟨out546, hp, hq547⟩ := bS hp
 refine c_cutX (fun a w => ∃ y541 : List Int, ∃ yv542 : Value, ∃ m543 : Nat, ∃ cs544 : List Value, (.inl y541) = out546 ∧ Ok E I (.row yv542 5 1 m543 cs544 :: .blk b1 (.cells ⟨[.string e0, .bool false]⟩ 126 (0, 0)) :: F) w ∧ Fr 40 ([(2, .pointer (some ⟨b1, 0, none⟩)), (3, yv542)]) a ∧ RowR (ekI .u8) I cs544 y541) ?_ ?_
 ·refine wp_block <| c_loop <| c_fuel (ref02_Key.l0 a0) out546 (fun (y415, y420) a w => ∃ yv416 : Value, ∃ m417 : Nat, ∃ cs418 : List Value, Ok E I (.row yv416 5 1 m417 cs418 :: .blk b1 (.cells ⟨[.string e0, .bool false]⟩ 126 (0, 0)) :: F) w ∧ Fr 40 ([(0, .string a0), (2, .pointer (some ⟨b1, 0, none⟩)), (3, yv416), (4, .int .i64 y420)]) a ∧ RowR (ekI .u8) I cs418 y415) (fun _ => rfl) ?_ BIG (([] : List Int), 0) _ _ ⟨(.slice none 0 0), 0, [], hw, hf.to ⟨rfl, rfl, rfl, rfl, trivial⟩, hRR168⟩ hp
  intro k st a w hI hp ih
  obtain ⟨y415, y420⟩ := st
  obtain ⟨yv416, m417, cs418, hw, hf, hRR419⟩ := hI
  rw [ref02_Key.l0] at hp
  refine wq <| wq <| wr <| om hf rfl rfl fun a hf => om hf rfl rfl fun a hf => oR hf (r_lenS hf und_9 rfl) rfl fun a hf => oR hf (iC hf rfl rfl rfl) rfl fun a hf => oN <| ct <| cC hf rfl (fun hb549 => ?_) (fun hb549 => ?_)
  ·replace hp := cond_t hb549 hp
   refine wp_skip <| ct ?_
   obtain ⟨out629, hp, hq630⟩ := bS hp
   refine c_cut (fun a w => ∃ y624 : List Int, ∃ yv625 : Value, ∃ m626 : Nat, ∃ cs627 : List Value, (.inl y624) = out629 ∧ Ok E I (.row yv625 5 1 m626 cs627 :: .blk b1 (.cells ⟨[.string e0, .bool false]⟩ 126 (0, 0)) :: F) w ∧ Fr 40 ([(0, .string a0), (2, .pointer (some ⟨b1, 0, none⟩)), (3, yv625), (4, .int .i64 y420)]) a ∧ RowR (ekI .u8) I cs627 y624) ?_ ?_
   ·refine wp_block <| wq ?_
    obtain ⟨out647, hp, hq648⟩ := bS hp
    refine c_cut (fun a w => ∃ y646 : Bool, y646 = out647 ∧ Ok E I (.row yv416 5 1 m417 cs418 :: .blk b1 (.cells ⟨[.string e0, .bool false]⟩ 126 (0, 0)) :: F) w ∧ Fr 40 ([(0, .string a0), (2, .pointer (some ⟨b1, 0, none⟩)), (3, yv416), (4, .int .i64 y420), (20, .bool y646)]) a) ?_ ?_
    ·refine wr <| om hf rfl rfl fun a hf => om hf rfl rfl fun a hf => ?_
     obtain ⟨hg649, hp⟩ := gS hp
     refine oR hf (r_indexS hf und_9 rfl rfl hg649) rfl fun a hf => oR hf (iC hf rfl rfl rfl) rfl fun a hf => om hf rfl rfl fun a hf => g_split hf (g := 15) rfl (fun hb650 hf => ?_) (fun hb650 hf => ?_)
     ·replace hp := cond_t hb650 hp
      refine oQ hf (g := 15) rfl fun a hf => oQ hf (g := 15) rfl fun a hf => oQ hf (g := 15) rfl fun a hf => oQ hf (g := 15) rfl fun a hf => oR hf (pT hf rfl rfl) rfl fun a hf => oN <| ct ?_
      have ho := oI hp
      subst ho
      exact ⟨true, rfl, hw, hf.to ⟨rfl, rfl, rfl, rfl, rfl, trivial⟩⟩
     ·replace hp := cond_f hb650 hp
      refine oW hf (g := 15) rfl rfl <| om hf rfl rfl fun a hf => oW hf (g := 15) rfl rfl <| oR hf (r_lenS hf und_9 rfl) rfl fun a hf => oW hf (g := 15) rfl rfl <| oR hf (r_rem hf rfl rfl (by decide)) rfl fun a hf => oW hf (g := 15) rfl rfl <| oR hf (iC hf rfl rfl rfl) rfl fun a hf => oR hf (pF hf rfl rfl) rfl fun a hf => oN <| ct ?_
      have ho := oI hp
      subst ho
      exact ⟨(((a0.size : Int).tmod 2) != 0), rfl, hw, hf.to ⟨rfl, rfl, rfl, rfl, rfl, trivial⟩⟩
    ·intro a w hM
     obtain ⟨y646, rfl, hw, hf⟩ := hM
     replace hp := hq648
     refine cC hf rfl (fun hb651 => ?_) (fun hb651 => ?_)
     ·replace hp := cond_t hb651 hp
      refine wq <| wr <| oR hf (r_build hf bd_126 (vs := []) rfl trivial (by decide) (out := [.string e0, .bool false]) rfl) rfl fun a hf => ?_
      obtain ⟨w, hrun652, hw⟩ := e_store (P := P) hw hf (x := .tmp 2) (y := .tmp 21) rfl rfl ty_126 1 rfl (vs := [.string e0, .bool false]) rfl rfl (oC rfl (oC rfl ones_nil)) (by simp [arrC_len]) (cs' := [.string e0, .bool false]) rfl
      dsimp only [List.set] at hw
      refine o_effU (hrun652 ..) <| oN <| ct <| wp_ret <| c_thenR <| c_blockR <| c_thenR ?_
      have ho := oI hp
      subst ho
      replace hp := hq630
      refine c_thenR <| c_blockR <| c_thenR ?_
      have ho := oI hp
      subst ho
      replace hp := hq547
      refine c_thenR ?_
      replace hw : Ok E I (.blk b1 (.cells ⟨[.string e0, .bool false]⟩ 126 (0, 0)) :: F) w := hw.sub (sc (scc sr))
      have ho := oI hp
      subst ho
      exact b_retC hw hf results62 ty_126 rfl 0 rfl (vs := [.string e0, .bool false]) rfl rfl ⟨_, rfl, ⟨rfl, hw.tail⟩⟩
     ·replace hp := cond_f hb651 hp
      refine wp_skip <| ct <| wq <| wr <| om hf rfl rfl fun a hf => oR hf (r_rem hf rfl rfl (by decide)) rfl fun a hf => oR hf (iC hf rfl rfl rfl) rfl fun a hf => oN <| ct <| cC hf rfl (fun hb653 => ?_) (fun hb653 => ?_)
      ·replace hp := cond_t hb653 hp
       refine c_drawn mix [] (.rd 0 (.rd 1 (.rd 2 (.rd 3 (.rd 4 (.rd 5 (.rd 6 (.rd 7 (.rd 8 (.rd 9 (.ef 10 (.ef 11 (.rd 12 .done))))))))))))) (by kernel_rfl) hw (fun w => Ok E I (.blk b1 (.cells ⟨[.string e0, .bool false]⟩ 126 (0, 0)) :: F) w) (fun w hw => ⟨hw.sub (sc (scc sr)), ?_⟩)
       refine tm rfl hf rfl rfl fun a hf => tm rfl hf rfl rfl fun a hf => tm rfl hf rfl rfl fun a hf => tR rfl hf (fun w hw => r_sub hf rfl rfl) rfl fun a hf => ?_
       obtain ⟨hg655, hp⟩ := gS hp
       refine tR rfl hf (fun w hw => r_indexS hf und_9 rfl rfl hg655) rfl fun a hf => tR rfl hf (fun w hw => r_mul hf rfl rfl) rfl fun a hf => tm rfl hf rfl rfl fun a hf => tm rfl hf rfl rfl fun a hf => ?_
       obtain ⟨hg656, hp⟩ := gS hp
       refine tR rfl hf (fun w hw => r_indexS hf und_9 rfl rfl hg656) rfl fun a hf => tR rfl hf (fun w hw => r_add hf rfl rfl) rfl fun a hf => t_ef rfl ?_
       obtain ⟨w, v657, hrun658, hw, hRR659⟩ := e_buildSlice (P := P) (K := (ekI .u8)) (m := 1) hw hf (parts := [(0, .tmp 34)]) el_53 ty_5 rfl rfl rfl (ccs := [[Value.int .u8 (wu8 ((wu8 ((bt a0 (w64 (y420 - 1))) * 16)) + (bt a0 y420)))]]) rfl (xs := [wu8 ((wu8 ((bt a0 (w64 (y420 - 1))) * 16)) + (bt a0 y420))]) ⟨rfl, trivial⟩ rfl
       obtain ⟨cs660, hcs⟩ : ∃ cs, cs = ([[Value.int .u8 (wu8 ((wu8 ((bt a0 (w64 (y420 - 1))) * 16)) + (bt a0 y420)))]] : List (List Value)).flatten := ⟨_, rfl⟩
       rw [← hcs] at hw hRR659; clear hcs
       refine t_eff hf (hrun658 ..) rfl fun a hf => ⟨.inr (hw.back (IH.le_refl _) (sc (sc (scc sr)))), ?_⟩
       refine t_ef rfl ?_
       obtain ⟨hg662, hp⟩ := gS hp
       obtain ⟨w, v663, m664, cs665, hrun667, hw, hRR666⟩ := e_append (P := P) (K := (ekI .u8)) (ty := 53) hw hf (s := .tmp 25) (x := .tmp 35) el_53 ty_5 rfl (by decide) 1 rfl rfl rfl hRR419 (ys := [wu8 ((wu8 ((bt a0 (w64 (y420 - 1))) * 16)) + (bt a0 y420))]) (rR (K := (ekI .u8)) hw (i := 0) rfl hRR659) hg662
       replace hw : Ok E I (.row v657 5 1 1 cs660 :: .row v663 5 1 m664 cs665 :: .blk b1 (.cells ⟨[.string e0, .bool false]⟩ 126 (0, 0)) :: F) w := hw
       refine t_eff hf (hrun667 ..) rfl fun a hf => ⟨.inr (hw.back (IH.le_refl _) (sc (sc (scc sr)))), ?_⟩
       refine tR rfl hf (fun w hw => r_assign hf rfl) rfl fun a hf => t_done <| c_blockN <| ct ?_
       have ho := oI hp
       subst ho
       replace hw : Ok E I (.row v663 5 1 m664 cs665 :: .blk b1 (.cells ⟨[.string e0, .bool false]⟩ 126 (0, 0)) :: F) w := hw.sub (sc (scc (scc sr)))
       exact ⟨(y415 ++ [wu8 ((wu8 ((bt a0 (w64 (y420 - 1))) * 16)) + (bt a0 y420))]), v663, m664, cs665, rfl, hw, hf.to ⟨rfl, rfl, rfl, rfl, trivial⟩, hRR666⟩
      ·replace hp := cond_f hb653 hp
       refine wp_skip <| c_blockN <| ct ?_
       have ho := oI hp
       subst ho
       exact ⟨y415, yv416, m417, cs418, rfl, hw, hf.to ⟨rfl, rfl, rfl, rfl, trivial⟩, hRR419⟩
   ·intro a w hM
    obtain ⟨y624, yv625, m626, cs627, rfl, hw, hf, hRR628⟩ := hM
    replace hp := hq630
    refine wr <| om hf rfl rfl fun a hf => oR hf (r_add hf rfl rfl) rfl fun a hf => oa hf rfl rfl fun a hf => oN <| ct ?_
    exact ih (y624, w64 (y420 + 1)) _ _ ⟨yv625, m626, cs627, hw, hf.to ⟨rfl, rfl, rfl, rfl, trivial⟩, hRR628⟩ hp
  ·replace hp := cond_f hb549 hp
   refine wp_exit <| c_thenE <| c_thenE <| c_exit <| ct ?_
   have ho := oI hp
   subst ho
   exact ⟨y415, yv416, m417, cs418, rfl, hw, hf.to ⟨rfl, rfl, trivial⟩, hRR419⟩
 ·intro a w hM
  obtain ⟨y541, yv542, m543, cs544, rfl, hw, hf, hRR545⟩ := hM
  replace hp := hq547
  refine ct <| wq <| wr <| om hf rfl rfl fun a hf => oR hf (r_convB hf und_53 und_5 und_9 rfl (rR (K := (ekI .u8)) hw (i := 0) rfl hRR545)) rfl fun a hf => oR hf (r_build hf bd_126 (vs := [.string (strOfNums y541), .bool true]) rfl ⟨rfl, rfl, trivial⟩ (by decide) (out := [.string (strOfNums y541), .bool true]) rfl) rfl fun a hf => ?_
  obtain ⟨w, hrun670, hw⟩ := e_store (P := P) hw hf (x := .tmp 2) (y := .tmp 39) rfl rfl ty_126 1 rfl (vs := [.string (strOfNums y541), .bool true]) rfl rfl (oC rfl (oC rfl ones_nil)) (by simp [arrC_len]) (cs' := [.string (strOfNums y541), .bool true]) rfl
  dsimp only [List.set] at hw
  refine o_effU (hrun670 ..) <| oN <| ct <| wp_ret ?_
  replace hw : Ok E I (.blk b1 (.cells ⟨[.string (strOfNums y541), .bool true]⟩ 126 (0, 0)) :: F) w := hw.sub (sc (scc sr))
  have ho := oI hp
  subst ho
  exact b_retC hw hf results62 ty_126 rfl 0 rfl (vs := [.string (strOfNums y541), .bool true]) rfl rfl ⟨_, rfl, ⟨rfl, hw.tail⟩⟩

theorem ref10_Same_ok {E : World} {I : IH} {F : List Atom} {w : World} {a0 : List Node} {a0v9071 : Value} {a1 : List Node} {a1v9073 : Value} {res0 : Bool} (hw : Ok E I (F) w) (hR9072 : RS ek_Node I a0v9071 a0) (hR9074 : RS ek_Node I a1v9073 a1) (hp : ref10_Same.f a0 a1 = some res0) :
  Calls P 63 ⟨[a0v9071, a1v9073]⟩ w fun e w' => ∃ v, e = .returned v ∧ v = Value.bool res0 ∧ Ok E I (F) w' := by
 refine c_enter func63 rfl ntmps63 rfl fun a hf => ?_
 replace hf : Fr 26 [(0, a0v9071), (1, a1v9073)] a := hf
 unfold ref10_Same.f at hp
 refine wq <| wr <| oa hf rfl rfl fun a hf => oN <| ct <| wq <| wq <| wr <| om hf rfl rfl fun a hf => oR hf (r_lenL (K := ek_Node) hf el_23 rfl (hR9072.rd hw)) rfl fun a hf => om hf rfl rfl fun a hf => oR hf (r_lenL (K := ek_Node) hf el_23 rfl (hR9074.rd hw)) rfl fun a hf => oR hf (iC hf rfl rfl rfl) rfl fun a hf => oN <| ct <| cC hf rfl (fun hb1 => ?_) (fun hb1 => ?_)
 ·replace hp := cond_t hb1 hp
  refine wq <| wr <| oa hf rfl rfl fun a hf => oN <| ct <| wp_ret <| c_thenR ?_
  have ho := oI hp
  subst ho
  exact b_ret1 hf results63 rfl ⟨_, rfl, ⟨rfl, hw⟩⟩
 ·replace hp := cond_f hb1 hp
  refine wp_skip <| ct <| wq <| wq <| wr <| oa hf rfl rfl fun a hf => oN <| ct ?_
  obtain ⟨out19, hp, hq20⟩ := bS hp
  refine c_cutX (fun a w => (.inl ()) = out19 ∧ Ok E I (F) w ∧ Fr 26 ([]) a) ?_ ?_
  ·refine wp_block <| c_loop <| c_fuel (ref10_Same.l0 a0 a1) out19 (fun (y13 : Int) a w => Ok E I (F) w ∧ Fr 26 ([(0, a0v9071), (1, a1v9073), (5, .int .i64 y13)]) a) (fun _ => rfl) ?_ BIG 0 _ _ ⟨hw, hf.to ⟨rfl, rfl, rfl, trivial⟩⟩ hp
   intro k y13 a w hI hp ih
   obtain ⟨hw, hf⟩ := hI
   rw [ref10_Same.l0] at hp
   refine wq <| wq <| wr <| om hf rfl rfl fun a hf => om hf rfl rfl fun a hf => oR hf (r_lenL (K := ek_Node) hf el_23 rfl (hR9072.rd hw)) rfl fun a hf => oR hf (iC hf rfl rfl rfl) rfl fun a hf => oN <| ct <| cC hf rfl (fun hb22 => ?_) (fun hb22 => ?_)
   ·replace hp := cond_t hb22 hp
    refine wp_skip <| ct <| wq <| wp_block <| wq <| c_drawn mix [] (.rd 0 (.rd 1 (.rd 2 (.rd 3 (.rd 4 (.rd 5 (.rd 6 (.rd 7 (.rd 8 .done))))))))) (by kernel_rfl) hw (fun w => Ok E I (F) w) (fun w hw => ⟨hw.sub sr, ?_⟩)
    refine tm rfl hf rfl rfl fun a hf => tm rfl hf rfl rfl fun a hf => ?_
    obtain ⟨hg24, hp⟩ := gS hp
    refine tR rfl hf (fun w hw => rI (K := ek_Node) hf el_23 rfl rfl (hR9072.rd hw) hg24) rfl fun a hf => tR rfl hf (fun w hw => r_loadHP (K := ek_Node) hf rfl ty_51 (hR9072.rd hw) hg24 rfl (vs := (.int .i64 ((gt a0 y13).kind_) :: .string ((gt a0 y13).path_) :: .bool ((gt a0 y13).has_) :: .string ((gt a0 y13).value_) :: arrC .i64 ((gt a0 y13).kids_))) (fun cs h => Node_all h) (by simp [arrC_len])) rfl fun a hf => tm rfl hf rfl rfl fun a hf => tm rfl hf rfl rfl fun a hf => ?_
    obtain ⟨hg25, hp⟩ := gS hp
    refine tR rfl hf (fun w hw => rI (K := ek_Node) hf el_23 rfl rfl (hR9074.rd hw) hg25) rfl fun a hf => tR rfl hf (fun w hw => r_loadHP (K := ek_Node) hf rfl ty_51 (hR9074.rd hw) hg25 rfl (vs := (.int .i64 ((gt a1 y13).kind_) :: .string ((gt a1 y13).path_) :: .bool ((gt a1 y13).has_) :: .string ((gt a1 y13).value_) :: arrC .i64 ((gt a1 y13).kids_))) (fun cs h => Node_all h) (by simp [arrC_len])) rfl fun a hf => tR rfl hf (fun w hw => r_neq_Node hf (x := (gt a0 y13)) (y := (gt a1 y13)) rfl rfl) rfl fun a hf => t_done <| ct <| cC hf rfl (fun hb26 => ?_) (fun hb26 => ?_)
    ·replace hp := cond_t hb26 hp
     refine wq <| wr <| oa hf rfl rfl fun a hf => oN <| ct <| wp_ret <| c_blockR <| c_thenR <| c_thenR <| c_blockR <| c_thenR ?_
     have ho := oI hp
     subst ho
     replace hp := hq20
     refine c_thenR ?_
     have ho := oI hp
     subst ho
     exact b_ret1 hf results63 rfl ⟨_, rfl, ⟨rfl, hw⟩⟩
    ·replace hp := cond_f hb26 hp
     refine wp_skip <| c_blockN <| ct <| wr <| om hf rfl rfl fun a hf => oR hf (r_add hf rfl rfl) rfl fun a hf => oa hf rfl rfl fun a hf => oN <| ct ?_
     exact ih (w64 (y13 + 1)) _ _ ⟨hw, hf.to ⟨rfl, rfl, rfl, trivial⟩⟩ hp
   ·replace hp := cond_f hb22 hp
    refine wp_exit <| c_thenE <| c_thenE <| c_exit <| ct ?_
    have ho := oI hp
    subst ho
    exact ⟨rfl, hw, hf.to trivial⟩
  ·intro a w hM
   obtain ⟨rfl, hw, hf⟩ := hM
   replace hp := hq20
   refine ct <| wq <| wr <| oa hf rfl rfl fun a hf => oN <| ct <| wp_ret ?_
   have ho := oI hp
   subst ho
   exact b_ret1 hf results63 rfl ⟨_, rfl, ⟨rfl, hw⟩⟩
end Go.Lf
