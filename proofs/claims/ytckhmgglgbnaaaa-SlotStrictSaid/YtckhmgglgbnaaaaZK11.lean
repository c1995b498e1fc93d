import Derived.Test.YtckhmgglgbnaaaaZD
import Derived.Test.YtckhmgglgbnaaaaZF
import Derived.Test.YtckhmgglgbnaaaaUB
import Derived.Test.YtckhmgglgbnaaaaN
import Derived.Test.YtckhmgglgbnaaaaBL
import Derived.Test.YtckhmgglgbnaaaaZK9
set_option linter.unusedVariables false
set_option linter.unusedSimpArgs false
set_option maxHeartbeats 1000000
set_option maxRecDepth 20000
namespace Go.Lf
open Go Go.Proofs.Try
theorem slices_Equal_int_ok {E : World} {I : IH} {F : List Atom} {w : World} {a0 : List Int} {a0v9 : Value} {a1 : List Int} {a1v11 : Value} {res0 : Bool} (hw : Ok E I (F) w) (hR10 : RS (ekI .i64) I a0v9 a0) (hR12 : RS (ekI .i64) I a1v11 a1) (hp : slices_Equal_int.f a0 a1 = some res0) :
  Calls P 69 ⟨[a0v9, a1v11]⟩ w fun e w' => ∃ v, e = .returned v ∧ v = Value.bool res0 ∧ Ok E I (F) w' := by
 refine c_enter func69 rfl ntmps69 rfl fun a hf => ?_
 replace hf : Fr 26 [(0, a0v9), (1, a1v11)] a := hf
 unfold slices_Equal_int.f at hp
 refine wq <| wr <| oa hf rfl rfl fun a hf => oN <| ct <| wq <| wq <| wr <| om hf rfl rfl fun a hf => oR hf (r_lenL (K := (ekI .i64)) hf el_24 rfl (hR10.rd hw)) rfl fun a hf => om hf rfl rfl fun a hf => oR hf (r_lenL (K := (ekI .i64)) hf el_24 rfl (hR12.rd hw)) rfl fun a hf => oR hf (iC hf rfl rfl rfl) rfl fun a hf => oN <| ct <| cC hf rfl (fun hb1 => ?_) (fun hb1 => ?_)
 ·replace hp := cond_t hb1 hp
  refine wq <| wr <| oa hf rfl rfl fun a hf => oN <| ct <| wp_ret <| c_thenR ?_
  have ho := oI hp
  subst ho
  exact b_ret1 hf results69 rfl ⟨_, rfl, ⟨rfl, hw⟩⟩
 ·replace hp := cond_f hb1 hp
  refine wp_skip <| ct <| wq <| wq <| wr <| om hf rfl rfl fun a hf => oR hf (r_lenL (K := (ekI .i64)) hf el_24 rfl (hR10.rd hw)) rfl fun a hf => om hf rfl rfl fun a hf => oN <| ct ?_
  obtain ⟨out19, hp, hq20⟩ := bS hp
  refine c_cutX (fun a w => (.inl ()) = out19 ∧ Ok E I (F) w ∧ Fr 26 ([]) a) ?_ ?_
  ·refine wp_block <| c_loop <| c_fuel (slices_Equal_int.l0 a0 a1) out19 (fun (y13 : Int) a w => Ok E I (F) w ∧ Fr 26 ([(0, a0v9), (1, a1v11), (12, .int .i64 (a0.length : Int)), (13, .int .i64 y13)]) a) (fun _ => rfl) ?_ BIG 0 _ _ ⟨hw, hf.to ⟨rfl, rfl, rfl, rfl, trivial⟩⟩ hp
   intro k y13 a w hI hp ih
   obtain ⟨hw, hf⟩ := hI
   rw [slices_Equal_int.l0] at hp
   refine wq <| wr <| oR hf (iC hf rfl rfl rfl) rfl fun a hf => oN <| ct <| wq <| cC hf rfl (fun hb22 => ?_) (fun hb22 => ?_)
   ·replace hp := cond_t hb22 hp
    refine wp_skip <| ct <| wq <| wp_block <| wq <| wr <| om hf rfl rfl fun a hf => oa hf rfl rfl fun a hf => oN <| ct <| wq <| c_drawn mix [] (.rd 0 (.rd 1 (.rd 2 (.rd 3 (.rd 4 (.rd 5 (.rd 6 (.rd 7 (.rd 8 .done))))))))) (by kernel_rfl) hw (fun w => Ok E I (F) w) (fun w hw => ⟨hw.sub sr, ?_⟩)
    refine tm rfl hf rfl rfl fun a hf => tm rfl hf rfl rfl fun a hf => ?_
    obtain ⟨hg24, hp⟩ := gS hp
    refine tR rfl hf (fun w hw => rI (K := (ekI .i64)) hf el_24 rfl rfl (hR10.rd hw) hg24) rfl fun a hf => tR rfl hf (fun w hw => r_loadH (K := (ekI .i64)) hf rfl ty_3 (hR10.rd hw) hg24 rfl (fun cs h => ekI_f0 h)) rfl fun a hf => tm rfl hf rfl rfl fun a hf => tm rfl hf rfl rfl fun a hf => ?_
    obtain ⟨hg25, hp⟩ := gS hp
    refine tR rfl hf (fun w hw => rI (K := (ekI .i64)) hf el_24 rfl rfl (hR12.rd hw) hg25) rfl fun a hf => tR rfl hf (fun w hw => r_loadH (K := (ekI .i64)) hf rfl ty_3 (hR12.rd hw) hg25 rfl (fun cs h => ekI_f0 h)) rfl fun a hf => tR rfl hf (fun w hw => iC hf rfl rfl rfl) rfl fun a hf => t_done <| ct <| cC hf rfl (fun hb26 => ?_) (fun hb26 => ?_)
    ·replace hp := cond_t hb26 hp
     refine wq <| wr <| oa hf rfl rfl fun a hf => oN <| ct <| wp_ret <| c_blockR <| c_thenR <| c_thenR <| c_blockR <| c_thenR ?_
     have ho := oI hp
     subst ho
     replace hp := hq20
     refine c_thenR ?_
     have ho := oI hp
     subst ho
     exact b_ret1 hf results69 rfl ⟨_, rfl, ⟨rfl, hw⟩⟩
    ·replace hp := cond_f hb26 hp
     refine wp_skip <| c_blockN <| ct <| wr <| oR hf (r_add hf rfl rfl) rfl fun a hf => om hf rfl rfl fun a hf => oN <| ct ?_
     exact ih (w64 (y13 + 1)) _ _ ⟨hw, hf.to ⟨rfl, rfl, rfl, rfl, trivial⟩⟩ hp
   ·replace hp := cond_f hb22 hp
    refine wp_exit <| c_thenE <| c_thenE <| c_exit <| ct ?_
    have ho := oI hp
    subst ho
    exact ⟨rfl, hw, hf.to trivial⟩
  ·intro a w hM
   obtain ⟨rfl, hw, hf⟩ := hM
   replace hp := hq20
   refine ct <| wq <| wr <| oa hf rfl rfl fun a hf => oN <| ct <| wp_ret ?_
   have ho := oI hp
   subst ho
   exact b_ret1 hf results69 rfl ⟨_, rfl, ⟨rfl, hw⟩⟩

theorem slot_same_ok {E : World} {I : IH} {F : List Atom} {w : World} {a0 : Plan} {a0v4 : Value} {a0v6 : Value} {a1 : Plan} {a1v8 : Value} {a1v10 : Value} {res0 : Bool} (hw : Ok E I (F) w) (hR5 : RS (ekI .i64) I a0v4 a0.nodes_) (hR7 : RS (ekI .i64) I a0v6 a0.kids_) (hR9 : RS (ekI .i64) I a1v8 a1.nodes_) (hR11 : RS (ekI .i64) I a1v10 a1.kids_) (hp : slot_same.f a0 a1 = some res0) :
  Calls P 52 ⟨[Value.agg ⟨[Value.string a0.prefix_, Value.int .i64 a0.top_, a0v4, a0v6]⟩, Value.agg ⟨[Value.string a1.prefix_, Value.int .i64 a1.top_, a1v8, a1v10]⟩]⟩ w fun e w' => ∃ v, e = .returned v ∧ v = Value.bool res0 ∧ Ok E I (F) w' := by
 refine c_enter func52 rfl ntmps52 rfl fun a hf => ?_
 replace hf : Fr 31 [(0, Value.agg ⟨[.string a0.prefix_, .int .i64 a0.top_, a0v4, a0v6]⟩), (1, Value.agg ⟨[.string a1.prefix_, .int .i64 a1.top_, a1v8, a1v10]⟩)] a := hf
 unfold slot_same.f at hp
 refine wq <| wr ?_
 obtain ⟨b1, w, hrun2, hw⟩ := e_box (P := P) hw hf (e := 26) (x := .tmp 0) rfl (cs := [Value.string a0.prefix_, Value.int .i64 a0.top_, a0v4, a0v6]) rfl
 refine o_eff hf (hrun2 ..) rfl fun a hf => ?_
 obtain ⟨b4, w, hrun5, hw⟩ := e_box (P := P) hw hf (e := 26) (x := .tmp 1) rfl (cs := [Value.string a1.prefix_, Value.int .i64 a1.top_, a1v8, a1v10]) rfl
 refine o_eff hf (hrun5 ..) rfl fun a hf => oa hf rfl rfl fun a hf => oN <| ct ?_
 obtain ⟨out58, hp, hq59⟩ := bS hp
 refine c_cut (fun a w => ∃ y57 : Bool, y57 = out58 ∧ Ok E I (.blk b4 (.cells ⟨[.string a1.prefix_, .int .i64 a1.top_, a1v8, a1v10]⟩ 26 (0, 0)) :: .blk b1 (.cells ⟨[.string a0.prefix_, .int .i64 a0.top_, a0v4, a0v6]⟩ 26 (0, 0)) :: F) w ∧ Fr 31 ([(4, .bool y57)]) a) ?_ ?_
 ·refine wr <| oR hf (rF hf rfl fd_26_0) rfl fun a hf => oR hf (rL hw hf rfl ty_9 1 rfl rfl) rfl fun a hf => oR hf (rF hf rfl fd_26_0) rfl fun a hf => oR hf (rL hw hf rfl ty_9 0 rfl rfl) rfl fun a hf => oR hf (r_scmp hf rfl rfl rfl) rfl fun a hf => om hf rfl rfl fun a hf => g_split hf (g := 10) rfl (fun hb60 hf => ?_) (fun hb60 hf => ?_)
  ·replace hp := cond_t hb60 hp
   refine oW hf (g := 10) rfl rfl <| oR hf (rF hf rfl fd_26_1) rfl fun a hf => oW hf (g := 10) rfl rfl <| oR hf (rL hw hf rfl ty_3 1 rfl rfl) rfl fun a hf => oW hf (g := 10) rfl rfl <| oR hf (rF hf rfl fd_26_1) rfl fun a hf => oW hf (g := 10) rfl rfl <| oR hf (rL hw hf rfl ty_3 0 rfl rfl) rfl fun a hf => oW hf (g := 10) rfl rfl <| oR hf (iC hf rfl rfl rfl) rfl fun a hf => oR hf (pT hf rfl rfl) rfl fun a hf => om hf rfl rfl fun a hf => g_split hf (g := 17) rfl (fun hb61 hf => ?_) (fun hb61 hf => ?_)
   ·replace hp := cond_t hb61 hp
    refine oW hf (g := 17) rfl rfl <| oR hf (rF hf rfl fd_26_2) rfl fun a hf => oW hf (g := 17) rfl rfl <| oR hf (rL hw hf rfl ty_24 1 rfl rfl) rfl fun a hf => oW hf (g := 17) rfl rfl <| oR hf (rF hf rfl fd_26_2) rfl fun a hf => oW hf (g := 17) rfl rfl <| oR hf (rL hw hf rfl ty_24 0 rfl rfl) rfl fun a hf => oW hf (g := 17) rfl rfl ?_
    obtain ⟨y62, hy63, hp⟩ := bS hp
    have hc65 := slices_Equal_int_ok hw hR5 hR9 hy63
    refine o_call hf cb_69 rfl rfl hc65 (fun v67 w a hK66 hf => ?_)
    obtain ⟨rfl, hw⟩ := hK66
    refine oR hf (pT hf rfl rfl) rfl fun a hf => om hf rfl rfl fun a hf => g_split hf (g := 24) rfl (fun hb68 hf => ?_) (fun hb68 hf => ?_)
    ·replace hp := cond_t hb68 hp
     refine oW hf (g := 24) rfl rfl <| oR hf (rF hf rfl fd_26_3) rfl fun a hf => oW hf (g := 24) rfl rfl <| oR hf (rL hw hf rfl ty_24 1 rfl rfl) rfl fun a hf => oW hf (g := 24) rfl rfl <| oR hf (rF hf rfl fd_26_3) rfl fun a hf => oW hf (g := 24) rfl rfl <| oR hf (rL hw hf rfl ty_24 0 rfl rfl) rfl fun a hf => oW hf (g := 24) rfl rfl ?_
     obtain ⟨y69, hy70, hp⟩ := bS hp
     have hc72 := slices_Equal_int_ok hw hR7 hR11 hy70
     refine o_call hf cb_69 rfl rfl hc72 (fun v74 w a hK73 hf => ?_)
     obtain ⟨rfl, hw⟩ := hK73
     refine oR hf (pT hf rfl rfl) rfl fun a hf => oa hf rfl rfl fun a hf => oN <| ct ?_
     have ho := oI hp
     subst ho
     exact ⟨y69, rfl, hw, hf.to ⟨rfl, trivial⟩⟩
    ·replace hp := cond_f hb68 hp
     refine oQ hf (g := 24) rfl fun a hf => oQ hf (g := 24) rfl fun a hf => oQ hf (g := 24) rfl fun a hf => oQ hf (g := 24) rfl fun a hf => oQ hf (g := 24) rfl fun a hf => oR hf (pF hf rfl rfl) rfl fun a hf => oa hf rfl rfl fun a hf => oN <| ct ?_
     have ho := oI hp
     subst ho
     exact ⟨false, rfl, hw, hf.to ⟨rfl, trivial⟩⟩
   ·replace hp := cond_f hb61 hp
    refine oQ hf (g := 17) rfl fun a hf => oQ hf (g := 17) rfl fun a hf => oQ hf (g := 17) rfl fun a hf => oQ hf (g := 17) rfl fun a hf => oQ hf (g := 17) rfl fun a hf => oR hf (pF hf rfl rfl) rfl fun a hf => om hf rfl rfl fun a hf => oQ hf (g := 24) rfl fun a hf => oQ hf (g := 24) rfl fun a hf => oQ hf (g := 24) rfl fun a hf => oQ hf (g := 24) rfl fun a hf => oQ hf (g := 24) rfl fun a hf => oR hf (pF hf rfl rfl) rfl fun a hf => oa hf rfl rfl fun a hf => oN <| ct ?_
    have ho := oI hp
    subst ho
    exact ⟨false, rfl, hw, hf.to ⟨rfl, trivial⟩⟩
  ·replace hp := cond_f hb60 hp
   refine oQ hf (g := 10) rfl fun a hf => oQ hf (g := 10) rfl fun a hf => oQ hf (g := 10) rfl fun a hf => oQ hf (g := 10) rfl fun a hf => oQ hf (g := 10) rfl fun a hf => oR hf (pF hf rfl rfl) rfl fun a hf => om hf rfl rfl fun a hf => oQ hf (g := 17) rfl fun a hf => oQ hf (g := 17) rfl fun a hf => oQ hf (g := 17) rfl fun a hf => oQ hf (g := 17) rfl fun a hf => oQ hf (g := 17) rfl fun a hf => oR hf (pF hf rfl rfl) rfl fun a hf => om hf rfl rfl fun a hf => oQ hf (g := 24) rfl fun a hf => oQ hf (g := 24) rfl fun a hf => ?_
   refine oQ hf (g := 24) rfl fun a hf => oQ hf (g := 24) rfl fun a hf => oQ hf (g := 24) rfl fun a hf => oR hf (pF hf rfl rfl) rfl fun a hf => oa hf rfl rfl fun a hf => oN <| ct ?_
   have ho := oI hp
   subst ho
   exact ⟨false, rfl, hw, hf.to ⟨rfl, trivial⟩⟩
 ·intro a w hM
  obtain ⟨y57, rfl, hw, hf⟩ := hM
  replace hp := hq59
  refine wp_ret ?_
  replace hw : Ok E I (F) w := hw.sub (sc (sc sr))
  have ho := oI hp
  subst ho
  exact b_ret1 hf results52 rfl ⟨_, rfl, ⟨rfl, hw⟩⟩

theorem slot_Encode_c2_ok {E : World} {I : IH} {F : List Atom} {w : World} {a0 : Plan} {a0v9 : Value} {a0v11 : Value} {a1b : Nat} {a1_prefix : ByteArray} {a1_top : Int} {a1_nodes : List Int} {a1_nodesv13 : Value} {a1_kids : List Int} {a1_kidsv15 : Value} {res0 : Bool} (hw : Ok E I (.blk a1b (.cells ⟨[Value.string a1_prefix, Value.int .i64 a1_top, a1_nodesv13, a1_kidsv15]⟩ 26 (0, 0)) :: F) w) (hR10 : RS (ekI .i64) I a0v9 a0.nodes_) (hR12 : RS (ekI .i64) I a0v11 a0.kids_) (hR14 : RS (ekI .i64) I a1_nodesv13 a1_nodes) (hR16 : RS (ekI .i64) I a1_kidsv15 a1_kids) (hp : slot_Encode_c2.f a0 a1_prefix a1_top a1_nodes a1_kids = some res0) :
  Calls P 51 ⟨[Value.agg ⟨[Value.string a0.prefix_, Value.int .i64 a0.top_, a0v9, a0v11]⟩, Value.pointer (some ⟨a1b, 0, none⟩)]⟩ w fun e w' => ∃ v, e = .returned v ∧ v = Value.bool res0 ∧ Ok E I (.blk a1b (.cells ⟨[Value.string a1_prefix, Value.int .i64 a1_top, a1_nodesv13, a1_kidsv15]⟩ 26 (0, 0)) :: F) w' := by
 refine c_enter func51 rfl ntmps51 rfl fun a hf => ?_
 replace hf : Fr 7 [(0, Value.agg ⟨[.string a0.prefix_, .int .i64 a0.top_, a0v9, a0v11]⟩), (1, .pointer (some ⟨a1b, 0, none⟩))] a := hf
 unfold slot_Encode_c2.f at hp
 refine wq <| wr ?_
 obtain ⟨b1, w, hrun2, hw⟩ := e_box (P := P) hw hf (e := 26) (x := .tmp 0) rfl (cs := [Value.string a0.prefix_, Value.int .i64 a0.top_, a0v9, a0v11]) rfl
 refine o_eff hf (hrun2 ..) rfl fun a hf => oa hf rfl rfl fun a hf => oN <| ct <| wq <| wr <| oR hf (r_loadA hw hf rfl ty_26 0 rfl (vs := [.string a0.prefix_, .int .i64 a0.top_, a0v9, a0v11]) rfl rfl) rfl fun a hf => oR hf (r_loadA hw hf rfl ty_26 1 rfl (vs := [.string a1_prefix, .int .i64 a1_top, a1_nodesv13, a1_kidsv15]) rfl rfl) rfl fun a hf => ?_
 obtain ⟨y75, hy76, hp⟩ := bS hp
 have hc78 := slot_same_ok hw hR10 hR12 hR14 hR16 hy76
 refine o_call hf cb_52 rfl rfl hc78 (fun v80 w a hK79 hf => ?_)
 obtain ⟨rfl, hw⟩ := hK79
 refine oa hf rfl rfl fun a hf => oN <| ct <| wp_ret ?_
 replace hw : Ok E I (.blk a1b (.cells ⟨[.string a1_prefix, .int .i64 a1_top, a1_nodesv13, a1_kidsv15]⟩ 26 (0, 0)) :: F) w := hw.sub (sc (scc sr))
 have ho := oI hp
 subst ho
 exact b_ret1 hf results51 rfl ⟨_, rfl, ⟨rfl, hw⟩⟩

theorem slices_IndexFunc_api_Plan_slot_Encode_c2_ok {E : World} {I : IH} {F : List Atom} {w : World} {a0 : List Plan} {a0v1 : Value} {a1c0b : Nat} {a1c0_prefix : ByteArray} {a1c0_top : Int} {a1c0_nodes : List Int} {a1c0_nodesv3 : Value} {a1c0_kids : List Int} {a1c0_kidsv5 : Value} {res0 : Int} (hw : Ok E I (.blk a1c0b (.cells ⟨[Value.string a1c0_prefix, Value.int .i64 a1c0_top, a1c0_nodesv3, a1c0_kidsv5]⟩ 26 (0, 0)) :: F) w) (hR2 : RS ek_Plan I a0v1 a0) (hR4 : RS (ekI .i64) I a1c0_nodesv3 a1c0_nodes) (hR6 : RS (ekI .i64) I a1c0_kidsv5 a1c0_kids) (hp : slices_IndexFunc_api_Plan_slot_Encode_c2.f a0 a1c0_prefix a1c0_top a1c0_nodes a1c0_kids = some res0) :
  Calls P 68 ⟨[a0v1, Value.func (.func 51) #[] ⟨[Value.pointer (some ⟨a1c0b, 0, none⟩)]⟩]⟩ w fun e w' => ∃ v, e = .returned v ∧ v = Value.int .i64 res0 ∧ Ok E I (.blk a1c0b (.cells ⟨[Value.string a1c0_prefix, Value.int .i64 a1c0_top, a1c0_nodesv3, a1c0_kidsv5]⟩ 26 (0, 0)) :: F) w' := by
 refine c_enter func68 rfl ntmps68 rfl fun a hf => ?_
 replace hf : Fr 19 [(0, a0v1), (1, Value.func (.func 51) #[] ⟨[.pointer (some ⟨a1c0b, 0, none⟩)]⟩)] a := hf
 unfold slices_IndexFunc_api_Plan_slot_Encode_c2.f at hp
 refine wq <| wr <| oa hf rfl rfl fun a hf => oN <| ct <| wq <| wq <| wr <| om hf rfl rfl fun a hf => oR hf (r_lenL (K := ek_Plan) hf el_29 rfl (hR2.rd hw)) rfl fun a hf => om hf rfl rfl fun a hf => oN <| ct ?_
 obtain ⟨out120, hp, hq121⟩ := bS hp
 refine c_cutX (fun a w => (.inl ()) = out120 ∧ Ok E I (.blk a1c0b (.cells ⟨[.string a1c0_prefix, .int .i64 a1c0_top, a1c0_nodesv3, a1c0_kidsv5]⟩ 26 (0, 0)) :: F) w ∧ Fr 19 ([]) a) ?_ ?_
 ·refine wp_block <| c_loop <| c_fuel (slices_IndexFunc_api_Plan_slot_Encode_c2.l0 a0 a1c0_prefix a1c0_top a1c0_nodes a1c0_kids) out120 (fun (y104 : Int) a w => Ok E I (.blk a1c0b (.cells ⟨[.string a1c0_prefix, .int .i64 a1c0_top, a1c0_nodesv3, a1c0_kidsv5]⟩ 26 (0, 0)) :: F) w ∧ Fr 19 ([(0, a0v1), (1, Value.func (.func 51) #[] ⟨[.pointer (some ⟨a1c0b, 0, none⟩)]⟩), (7, .int .i64 (a0.length : Int)), (8, .int .i64 y104)]) a) (fun _ => rfl) ?_ BIG 0 _ _ ⟨hw, hf.to ⟨rfl, rfl, rfl, rfl, trivial⟩⟩ hp
  intro k y104 a w hI hp ih
  obtain ⟨hw, hf⟩ := hI
  rw [slices_IndexFunc_api_Plan_slot_Encode_c2.l0] at hp
  refine wq <| wr <| oR hf (iC hf rfl rfl rfl) rfl fun a hf => oN <| ct <| wq <| cC hf rfl (fun hb123 => ?_) (fun hb123 => ?_)
  ·replace hp := cond_t hb123 hp
   refine wp_skip <| ct <| wq <| wp_block <| wq <| wr <| om hf rfl rfl fun a hf => oa hf rfl rfl fun a hf => oN <| ct <| wq <| wr <| om hf rfl rfl fun a hf => om hf rfl rfl fun a hf => om hf rfl rfl fun a hf => ?_
   obtain ⟨hg124, hp⟩ := gS hp
   refine oR hf (rI (K := ek_Plan) hf el_29 rfl rfl (hR2.rd hw) hg124) rfl fun a hf => ?_
   obtain ⟨_, ⟨vv125, vv127, rfl, hR126, hR128⟩, hrun130⟩ := rs_loadHA (P := P) ty_26 hR2 hg124 rfl (fun cs h => Plan_all h)
   refine oR hf (hrun130 _ _ _ _ _ _ _ _ _ _ _ _ hw hf rfl) rfl fun a hf => ?_
   replace hw : Ok E I (.blk a1c0b (.cells ⟨[.string a1c0_prefix, .int .i64 a1c0_top, a1c0_nodesv3, a1c0_kidsv5]⟩ 26 (0, 0)) :: F) w := hw.front (i := 0) rfl
   obtain ⟨y131, hy132, hp⟩ := bS hp
   have hc134 := slot_Encode_c2_ok hw hR126 hR128 hR4 hR6 hy132
   refine o_callV hf rfl cb_51 rfl rfl hc134 (fun v136 w a hK135 hf => ?_)
   obtain ⟨rfl, hw⟩ := hK135
   refine oN <| ct <| cC hf rfl (fun hb137 => ?_) (fun hb137 => ?_)
   ·replace hp := cond_t hb137 hp
    refine wq <| wr <| om hf rfl rfl fun a hf => oa hf rfl rfl fun a hf => oN <| ct <| wp_ret <| c_blockR <| c_thenR <| c_thenR <| c_blockR <| c_thenR ?_
    have ho := oI hp
    subst ho
    replace hp := hq121
    refine c_thenR ?_
    have ho := oI hp
    subst ho
    exact b_ret1 hf results68 rfl ⟨_, rfl, ⟨rfl, hw⟩⟩
   ·replace hp := cond_f hb137 hp
    refine wp_skip <| c_blockN <| ct <| wr <| oR hf (r_add hf rfl rfl) rfl fun a hf => om hf rfl rfl fun a hf => oN <| ct ?_
    exact ih (w64 (y104 + 1)) _ _ ⟨hw, hf.to ⟨rfl, rfl, rfl, rfl, trivial⟩⟩ hp
  ·replace hp := cond_f hb123 hp
   refine wp_exit <| c_thenE <| c_thenE <| c_exit <| ct ?_
   have ho := oI hp
   subst ho
   exact ⟨rfl, hw, hf.to trivial⟩
 ·intro a w hM
  obtain ⟨rfl, hw, hf⟩ := hM
  replace hp := hq121
  refine ct <| wq <| wr <| oa hf rfl rfl fun a hf => oN <| ct <| wp_ret ?_
  have ho := oI hp
  subst ho
  exact b_ret1 hf results68 rfl ⟨_, rfl, ⟨rfl, hw⟩⟩

theorem slices_ContainsFunc_api_Plan_slot_Encode_c2_ok {E : World} {I : IH} {F : List Atom} {w : World} {a0 : List Plan} {a0v114 : Value} {a1c0b : Nat} {a1c0_prefix : ByteArray} {a1c0_top : Int} {a1c0_nodes : List Int} {a1c0_nodesv116 : Value} {a1c0_kids : List Int} {a1c0_kidsv118 : Value} {res0 : Bool} (hw : Ok E I (.blk a1c0b (.cells ⟨[Value.string a1c0_prefix, Value.int .i64 a1c0_top, a1c0_nodesv116, a1c0_kidsv118]⟩ 26 (0, 0)) :: F) w) (hR115 : RS ek_Plan I a0v114 a0) (hR117 : RS (ekI .i64) I a1c0_nodesv116 a1c0_nodes) (hR119 : RS (ekI .i64) I a1c0_kidsv118 a1c0_kids) (hp : slices_ContainsFunc_api_Plan_slot_Encode_c2.f a0 a1c0_prefix a1c0_top a1c0_nodes a1c0_kids = some res0) :
  Calls P 50 ⟨[a0v114, Value.func (.func 51) #[] ⟨[Value.pointer (some ⟨a1c0b, 0, none⟩)]⟩]⟩ w fun e w' => ∃ v, e = .returned v ∧ v = Value.bool res0 ∧ Ok E I (.blk a1c0b (.cells ⟨[Value.string a1c0_prefix, Value.int .i64 a1c0_top, a1c0_nodesv116, a1c0_kidsv118]⟩ 26 (0, 0)) :: F) w' := by
 refine c_enter func50 rfl ntmps50 rfl fun a hf => ?_
 replace hf : Fr 9 [(0, a0v114), (1, Value.func (.func 51) #[] ⟨[.pointer (some ⟨a1c0b, 0, none⟩)]⟩)] a := hf
 unfold slices_ContainsFunc_api_Plan_slot_Encode_c2.f at hp
 refine wq <| wr <| oa hf rfl rfl fun a hf => oN <| ct <| wq <| wr <| om hf rfl rfl fun a hf => om hf rfl rfl fun a hf => ?_
 replace hw : Ok E I (.blk a1c0b (.cells ⟨[.string a1c0_prefix, .int .i64 a1c0_top, a1c0_nodesv116, a1c0_kidsv118]⟩ 26 (0, 0)) :: F) w := hw.front (i := 0) rfl
 obtain ⟨y140, hy141, hp⟩ := bS hp
 have hc143 := slices_IndexFunc_api_Plan_slot_Encode_c2_ok hw hR115 hR117 hR119 hy141
 refine o_call hf cb_68 rfl rfl hc143 (fun v145 w a hK144 hf => ?_)
 obtain ⟨rfl, hw⟩ := hK144
 refine oR hf (iC hf rfl rfl rfl) rfl fun a hf => oa hf rfl rfl fun a hf => oN <| ct <| wp_ret ?_
 have ho := oI hp
 subst ho
 exact b_ret1 hf results50 rfl ⟨_, rfl, ⟨rfl, hw⟩⟩

theorem slot_writer_bytes_ok {E : World} {I : IH} {F : List Atom} {w : World} {a0b : Nat} {a0_p_t : List Node} {a0_p_tv11 : Value} {a0_p_p_prefix : ByteArray} {a0_p_p_top : Int} {a0_p_p_nodes : List Int} {a0_p_p_nodesv13 : Value} {a0_p_p_kids : List Int} {a0_p_p_kidsv15 : Value} {a0_p_tops : List (Int × Int)} {a0_p_topsv : Nat} {a0_p_topsm : Nat} {a0_p_topscs : Array MapEntry} {a0_p_b_p_addrv : Value} {a0_p_b_p_buf : List Int} {a0_p_b_p_bufv : Value} {a0_p_b_p_bufm : Nat} {a0_p_b_p_bufcs : List Value} {a0_p_plans : List Plan} {a0_p_plansv17 : Value} {a1 : List Int} {a1v19 : Value} {new_a0_p_b_p_buf : List Int} (hw : Ok E I (.blk a0b (.cells ⟨[a0_p_tv11, Value.string a0_p_p_prefix, Value.int .i64 a0_p_p_top, a0_p_p_nodesv13, a0_p_p_kidsv15, Value.map (some a0_p_topsv), a0_p_b_p_addrv, a0_p_b_p_bufv, a0_p_plansv17]⟩ 105 (0, 0)) :: .blk a0_p_topsv (.map a0_p_topscs a0_p_topsm) :: .row a0_p_b_p_bufv 5 1 a0_p_b_p_bufm a0_p_b_p_bufcs :: F) w) (hR12 : RS ek_Node I a0_p_tv11 a0_p_t) (hR14 : RS (ekI .i64) I a0_p_p_nodesv13 a0_p_p_nodes) (hR16 : RS (ekI .i64) I a0_p_p_kidsv15 a0_p_p_kids) (ha0_p_tops : MapR a0_p_topscs a0_p_topsm a0_p_tops) (ha0_p_b_p_addr : OwnA a0b a0_p_b_p_addrv) (ha0_p_b_p_buf : RowR (ekI .u8) I a0_p_b_p_bufcs a0_p_b_p_buf) (hR18 : RS ek_Plan I a0_p_plansv17 a0_p_plans) (hR20 : RS (ekI .i64) I a1v19 a1) (hp : slot_writer_bytes.f a0_p_t a0_p_p_prefix a0_p_p_top a0_p_p_nodes a0_p_p_kids a0_p_tops a0_p_b_p_buf a0_p_plans a1 = some new_a0_p_b_p_buf) :
  Calls P 70 ⟨[Value.pointer (some ⟨a0b, 0, none⟩), a1v19]⟩ w fun e w' => ∃ v, e = .returned v ∧ ∃ rv14151 : Value, ∃ rm14152 : Nat, ∃ rcs14153 : List Value, ∃ rv14155 : Value, v = Value.tuple ⟨[]⟩ ∧ Ok E I (.blk a0b (.cells ⟨[a0_p_tv11, Value.string a0_p_p_prefix, Value.int .i64 a0_p_p_top, a0_p_p_nodesv13, a0_p_p_kidsv15, Value.map (some a0_p_topsv), rv14155, rv14151, a0_p_plansv17]⟩ 105 (0, 0)) :: .blk a0_p_topsv (.map a0_p_topscs a0_p_topsm) :: .row rv14151 5 1 rm14152 rcs14153 :: F) w' ∧ RowR (ekI .u8) I rcs14153 new_a0_p_b_p_buf ∧ OwnA a0b rv14155 := by
 refine c_enter func70 rfl ntmps70 rfl fun a hf => ?_
 replace hf : Fr 19 [(0, .pointer (some ⟨a0b, 0, none⟩)), (1, a1v19)] a := hf
 unfold slot_writer_bytes.f at hp
 refine wq <| wr <| om hf rfl rfl fun a hf => oR hf (r_lenL (K := (ekI .i64)) hf el_24 rfl (hR20.rd hw)) rfl fun a hf => om hf rfl rfl fun a hf => oN <| ct ?_
 obtain ⟨out54, hp, hq55⟩ := bS hp
 refine c_cutX (fun a w => ∃ y47 : List Int, ∃ yv48 : Value, ∃ m49 : Nat, ∃ cs50 : List Value, ∃ yv52 : Value, y47 = out54 ∧ Ok E I (.blk a0b (.cells ⟨[a0_p_tv11, .string a0_p_p_prefix, .int .i64 a0_p_p_top, a0_p_p_nodesv13, a0_p_p_kidsv15, Value.map (some a0_p_topsv), yv52, yv48, a0_p_plansv17]⟩ 105 (0, 0)) :: .blk a0_p_topsv (.map a0_p_topscs a0_p_topsm) :: .row yv48 5 1 m49 cs50 :: F) w ∧ Fr 19 ([]) a ∧ RowR (ekI .u8) I cs50 y47 ∧ OwnA a0b yv52) ?_ ?_
 ·refine wp_block <| c_loop <| c_fuel (slot_writer_bytes.l0 a1) out54 (fun (y29, y36) a w => ∃ yv30 : Value, ∃ m31 : Nat, ∃ cs32 : List Value, ∃ yv34 : Value, Ok E I (.blk a0b (.cells ⟨[a0_p_tv11, .string a0_p_p_prefix, .int .i64 a0_p_p_top, a0_p_p_nodesv13, a0_p_p_kidsv15, Value.map (some a0_p_topsv), yv34, yv30, a0_p_plansv17]⟩ 105 (0, 0)) :: .blk a0_p_topsv (.map a0_p_topscs a0_p_topsm) :: .row yv30 5 1 m31 cs32 :: F) w ∧ Fr 19 ([(0, .pointer (some ⟨a0b, 0, none⟩)), (6, a1v19), (7, .int .i64 (a1.length : Int)), (8, .int .i64 y36)]) a ∧ RowR (ekI .u8) I cs32 y29 ∧ OwnA a0b yv34) (fun _ => rfl) ?_ BIG (a0_p_b_p_buf, 0) _ _ ⟨a0_p_b_p_bufv, a0_p_b_p_bufm, a0_p_b_p_bufcs, a0_p_b_p_addrv, hw, hf.to ⟨rfl, rfl, rfl, rfl, trivial⟩, ha0_p_b_p_buf, ha0_p_b_p_addr⟩ hp
  intro k st a w hI hp ih
  obtain ⟨y29, y36⟩ := st
  obtain ⟨yv30, m31, cs32, yv34, hw, hf, hRR33, hA35⟩ := hI
  rw [slot_writer_bytes.l0] at hp
  refine wq <| wr <| oR hf (iC hf rfl rfl rfl) rfl fun a hf => oN <| ct <| wq <| cC hf rfl (fun hb57 => ?_) (fun hb57 => ?_)
  ·replace hp := cond_t hb57 hp
   refine wp_skip <| ct <| wq <| wp_block <| wq <| wr ?_
   obtain ⟨hg58, hp⟩ := gS hp
   refine oR hf (rI (K := (ekI .i64)) hf el_24 rfl rfl (hR20.rd hw) hg58) rfl fun a hf => oR hf (r_loadH (K := (ekI .i64)) hf rfl ty_3 (hR20.rd hw) hg58 rfl (fun cs h => ekI_f0 h)) rfl fun a hf => oa hf rfl rfl fun a hf => oN <| ct <| wr <| om hf rfl rfl fun a hf => oR hf (nC hf rfl) rfl fun a hf => oR hf (rF hf rfl fd_105_3) rfl fun a hf => om hf rfl rfl fun a hf => oR hf (r_convI hf und_3 und_5 rfl) rfl fun a hf => ?_
   replace hw : Ok E I (.blk a0b (.cells ⟨[a0_p_tv11, .string a0_p_p_prefix, .int .i64 a0_p_p_top, a0_p_p_nodesv13, a0_p_p_kidsv15, Value.map (some a0_p_topsv), yv34, yv30, a0_p_plansv17]⟩ 105 (0, 0)) :: .row yv30 5 1 m31 cs32 :: .blk a0_p_topsv (.map a0_p_topscs a0_p_topsm) :: F) w := (hw.front (i := 2) rfl).front (i := 1) rfl
   obtain ⟨hg66, hp⟩ := gS hp
   have hc59 := builder_WriteByte_ok hw hA35 hRR33 (wu8 (gt a1 y36)) hg66
   refine o_call hf cb_89 rfl rfl hc59 (fun v60 w a hK61 hf => ?_)
   obtain ⟨v62, m63, cs64, rfl, hw, hRR65⟩ := hK61
   refine oN <| c_blockN <| ct <| wr <| oR hf (r_add hf rfl rfl) rfl fun a hf => om hf rfl rfl fun a hf => oN <| ct ?_
   replace hw : Ok E I (.blk a0b (.cells ⟨[a0_p_tv11, .string a0_p_p_prefix, .int .i64 a0_p_p_top, a0_p_p_nodesv13, a0_p_p_kidsv15, Value.map (some a0_p_topsv), (.pointer (some ⟨a0b, 6, none⟩)), v62, a0_p_plansv17]⟩ 105 (0, 0)) :: .blk a0_p_topsv (.map a0_p_topscs a0_p_topsm) :: .row v62 5 1 m63 cs64 :: F) w := ((hw.front (i := 1) rfl).front (i := 2) rfl).front (i := 2) rfl
   exact ih (y29 ++ [wu8 (gt a1 y36)], w64 (y36 + 1)) _ _ ⟨v62, m63, cs64, (Value.pointer (some ⟨a0b, 6, none⟩)), hw, hf.to ⟨rfl, rfl, rfl, rfl, trivial⟩, hRR65, (OwnA.self _)⟩ hp
  ·replace hp := cond_f hb57 hp
   refine wp_exit <| c_thenE <| c_thenE <| c_exit <| ct ?_
   have ho := oI hp
   subst ho
   exact ⟨y29, yv30, m31, cs32, yv34, rfl, hw, hf.to trivial, hRR33, hA35⟩
 ·intro a w hM
  obtain ⟨y47, yv48, m49, cs50, yv52, rfl, hw, hf, hRR51, hA53⟩ := hM
  replace hp := hq55
  have ho := oI hp
  subst ho
  exact b_end0 hf results70 ⟨_, rfl, ⟨yv48, m49, cs50, yv52, rfl, hw, hRR51, hA53⟩⟩

theorem slot_writer_path_ok {E : World} {I : IH} {F : List Atom} {w : World} {a0b : Nat} {a0_p_t : List Node} {a0_p_tv84 : Value} {a0_p_p_prefix : ByteArray} {a0_p_p_top : Int} {a0_p_p_nodes : List Int} {a0_p_p_nodesv86 : Value} {a0_p_p_kids : List Int} {a0_p_p_kidsv88 : Value} {a0_p_tops : List (Int × Int)} {a0_p_topsv : Nat} {a0_p_topsm : Nat} {a0_p_topscs : Array MapEntry} {a0_p_b_p_addrv : Value} {a0_p_b_p_buf : List Int} {a0_p_b_p_bufv : Value} {a0_p_b_p_bufm : Nat} {a0_p_b_p_bufcs : List Value} {a0_p_plans : List Plan} {a0_p_plansv90 : Value} {a1 : ByteArray} {new_a0_p_b_p_buf : List Int} (hw : Ok E I (.blk a0b (.cells ⟨[a0_p_tv84, Value.string a0_p_p_prefix, Value.int .i64 a0_p_p_top, a0_p_p_nodesv86, a0_p_p_kidsv88, Value.map (some a0_p_topsv), a0_p_b_p_addrv, a0_p_b_p_bufv, a0_p_plansv90]⟩ 105 (0, 0)) :: .blk a0_p_topsv (.map a0_p_topscs a0_p_topsm) :: .row a0_p_b_p_bufv 5 1 a0_p_b_p_bufm a0_p_b_p_bufcs :: F) w) (hR85 : RS ek_Node I a0_p_tv84 a0_p_t) (hR87 : RS (ekI .i64) I a0_p_p_nodesv86 a0_p_p_nodes) (hR89 : RS (ekI .i64) I a0_p_p_kidsv88 a0_p_p_kids) (ha0_p_tops : MapR a0_p_topscs a0_p_topsm a0_p_tops) (ha0_p_b_p_addr : OwnA a0b a0_p_b_p_addrv) (ha0_p_b_p_buf : RowR (ekI .u8) I a0_p_b_p_bufcs a0_p_b_p_buf) (hR91 : RS ek_Plan I a0_p_plansv90 a0_p_plans) (hp : slot_writer_path.f a0_p_t a0_p_p_prefix a0_p_p_top a0_p_p_nodes a0_p_p_kids a0_p_tops a0_p_b_p_buf a0_p_plans a1 = some new_a0_p_b_p_buf) :
  Calls P 71 ⟨[Value.pointer (some ⟨a0b, 0, none⟩), Value.string a1]⟩ w fun e w' => ∃ v, e = .returned v ∧ ∃ rv14157 : Value, ∃ rm14158 : Nat, ∃ rcs14159 : List Value, ∃ rv14161 : Value, v = Value.tuple ⟨[]⟩ ∧ Ok E I (.blk a0b (.cells ⟨[a0_p_tv84, Value.string a0_p_p_prefix, Value.int .i64 a0_p_p_top, a0_p_p_nodesv86, a0_p_p_kidsv88, Value.map (some a0_p_topsv), rv14161, rv14157, a0_p_plansv90]⟩ 105 (0, 0)) :: .blk a0_p_topsv (.map a0_p_topscs a0_p_topsm) :: .row rv14157 5 1 rm14158 rcs14159 :: F) w' ∧ RowR (ekI .u8) I rcs14159 new_a0_p_b_p_buf ∧ OwnA a0b rv14161 := by
 refine c_enter func71 rfl ntmps71 rfl fun a hf => ?_
 replace hf : Fr 16 [(0, .pointer (some ⟨a0b, 0, none⟩)), (1, .string a1)] a := hf
 unfold slot_writer_path.f at hp
 refine wq <| wr <| om hf rfl rfl fun a hf => ?_
 obtain ⟨y4, hy3, hp⟩ := bS hp
 obtain ⟨y1, y2⟩ := y4
 have hc5 := nibble_Pack_ok hw hy3
 refine o_call hf cb_64 rfl rfl hc5 (fun v7 w a hK6 hf => ?_)
 obtain ⟨rfl, hw⟩ := hK6
 refine om hf rfl rfl fun a hf => oR hf (rE hf rfl rfl) rfl fun a hf => oR hf (rE hf rfl rfl) rfl fun a hf => oa hf rfl rfl fun a hf => oa hf rfl rfl fun a hf => oN <| ct <| wr <| om hf rfl rfl fun a hf => oR hf (nC hf rfl) rfl fun a hf => oR hf (rF hf rfl fd_105_3) rfl fun a hf => om hf rfl rfl fun a hf => ?_
 replace hw : Ok E I (.blk a0b (.cells ⟨[a0_p_tv84, .string a0_p_p_prefix, .int .i64 a0_p_p_top, a0_p_p_nodesv86, a0_p_p_kidsv88, Value.map (some a0_p_topsv), a0_p_b_p_addrv, a0_p_b_p_bufv, a0_p_plansv90]⟩ 105 (0, 0)) :: .row a0_p_b_p_bufv 5 1 a0_p_b_p_bufm a0_p_b_p_bufcs :: .blk a0_p_topsv (.map a0_p_topscs a0_p_topsm) :: F) w := (hw.front (i := 2) rfl).front (i := 1) rfl
 obtain ⟨hg15, hp⟩ := gS hp
 have hc8 := builder_WriteString_ok hw ha0_p_b_p_addr ha0_p_b_p_buf y1 hg15
 refine o_call hf cb_90 rfl rfl hc8 (fun v9 w a hK10 hf => ?_)
 obtain ⟨v11, m12, cs13, rfl, hw, hRR14⟩ := hK10
 refine oN ?_
 replace hw : Ok E I (.blk a0b (.cells ⟨[a0_p_tv84, .string a0_p_p_prefix, .int .i64 a0_p_p_top, a0_p_p_nodesv86, a0_p_p_kidsv88, Value.map (some a0_p_topsv), (.pointer (some ⟨a0b, 6, none⟩)), v11, a0_p_plansv90]⟩ 105 (0, 0)) :: .blk a0_p_topsv (.map a0_p_topscs a0_p_topsm) :: .row v11 5 1 m12 cs13 :: F) w := ((hw.front (i := 1) rfl).front (i := 2) rfl).front (i := 2) rfl
 have ho := oI hp
 subst ho
 exact b_end0 hf results71 ⟨_, rfl, ⟨v11, m12, cs13, (Value.pointer (some ⟨a0b, 6, none⟩)), rfl, hw, hRR14, (OwnA.self _)⟩⟩

theorem slot_writer_value_ok {E : World} {I : IH} {F : List Atom} {w : World} {a0b : Nat} {a0_p_t : List Node} {a0_p_tv28 : Value} {a0_p_p_prefix : ByteArray} {a0_p_p_top : Int} {a0_p_p_nodes : List Int} {a0_p_p_nodesv30 : Value} {a0_p_p_kids : List Int} {a0_p_p_kidsv32 : Value} {a0_p_tops : List (Int × Int)} {a0_p_topsv : Nat} {a0_p_topsm : Nat} {a0_p_topscs : Array MapEntry} {a0_p_b_p_addrv : Value} {a0_p_b_p_buf : List Int} {a0_p_b_p_bufv : Value} {a0_p_b_p_bufm : Nat} {a0_p_b_p_bufcs : List Value} {a0_p_plans : List Plan} {a0_p_plansv34 : Value} {a1 : ByteArray} {new_a0_p_b_p_buf : List Int} (hw : Ok E I (.blk a0b (.cells ⟨[a0_p_tv28, Value.string a0_p_p_prefix, Value.int .i64 a0_p_p_top, a0_p_p_nodesv30, a0_p_p_kidsv32, Value.map (some a0_p_topsv), a0_p_b_p_addrv, a0_p_b_p_bufv, a0_p_plansv34]⟩ 105 (0, 0)) :: .blk a0_p_topsv (.map a0_p_topscs a0_p_topsm) :: .row a0_p_b_p_bufv 5 1 a0_p_b_p_bufm a0_p_b_p_bufcs :: F) w) (hR29 : RS ek_Node I a0_p_tv28 a0_p_t) (hR31 : RS (ekI .i64) I a0_p_p_nodesv30 a0_p_p_nodes) (hR33 : RS (ekI .i64) I a0_p_p_kidsv32 a0_p_p_kids) (ha0_p_tops : MapR a0_p_topscs a0_p_topsm a0_p_tops) (ha0_p_b_p_addr : OwnA a0b a0_p_b_p_addrv) (ha0_p_b_p_buf : RowR (ekI .u8) I a0_p_b_p_bufcs a0_p_b_p_buf) (hR35 : RS ek_Plan I a0_p_plansv34 a0_p_plans) (hp : slot_writer_value.f a0_p_t a0_p_p_prefix a0_p_p_top a0_p_p_nodes a0_p_p_kids a0_p_tops a0_p_b_p_buf a0_p_plans a1 = some new_a0_p_b_p_buf) :
  Calls P 72 ⟨[Value.pointer (some ⟨a0b, 0, none⟩), Value.string a1]⟩ w fun e w' => ∃ v, e = .returned v ∧ ∃ rv14163 : Value, ∃ rm14164 : Nat, ∃ rcs14165 : List Value, ∃ rv14167 : Value, v = Value.tuple ⟨[]⟩ ∧ Ok E I (.blk a0b (.cells ⟨[a0_p_tv28, Value.string a0_p_p_prefix, Value.int .i64 a0_p_p_top, a0_p_p_nodesv30, a0_p_p_kidsv32, Value.map (some a0_p_topsv), rv14167, rv14163, a0_p_plansv34]⟩ 105 (0, 0)) :: .blk a0_p_topsv (.map a0_p_topscs a0_p_topsm) :: .row rv14163 5 1 rm14164 rcs14165 :: F) w' ∧ RowR (ekI .u8) I rcs14165 new_a0_p_b_p_buf ∧ OwnA a0b rv14167 := by
 refine c_enter func72 rfl ntmps72 rfl fun a hf => ?_
 replace hf : Fr 14 [(0, .pointer (some ⟨a0b, 0, none⟩)), (1, .string a1)] a := hf
 unfold slot_writer_value.f at hp
 refine wq <| wr <| om hf rfl rfl fun a hf => om hf rfl rfl fun a hf => oR hf (r_lenS hf und_9 rfl) rfl fun a hf => ?_
 obtain ⟨w, v1, hrun2, hw, hRR3⟩ := e_buildSlice (P := P) (K := (ekI .i64)) (m := 1) hw hf (parts := [(0, .tmp 6)]) el_24 ty_3 rfl rfl rfl (ccs := [[Value.int .i64 (a1.size : Int)]]) rfl (xs := [(a1.size : Int)]) ⟨rfl, trivial⟩ rfl
 obtain ⟨cs4, hcs⟩ : ∃ cs, cs = ([[Value.int .i64 (a1.size : Int)]] : List (List Value)).flatten := ⟨_, rfl⟩
 rw [← hcs] at hw hRR3; clear hcs
 refine o_eff hf (hrun2 ..) rfl fun a hf => ?_
 have hw : Ok E I (.row v1 3 1 1 cs4 :: .blk a0b (.cells ⟨[a0_p_tv28, Value.string a0_p_p_prefix, Value.int .i64 a0_p_p_top, a0_p_p_nodesv30, a0_p_p_kidsv32, Value.map (some a0_p_topsv), a0_p_b_p_addrv, a0_p_b_p_bufv, a0_p_plansv34]⟩ 105 (0, 0)) :: .blk a0_p_topsv (.map a0_p_topscs a0_p_topsm) :: .row a0_p_b_p_bufv 5 1 a0_p_b_p_bufm a0_p_b_p_bufcs :: F) w := hw.front (i := 0) rfl
 obtain ⟨I6, hle7, hw, hR8⟩ := row_freeze (K := (ekI .i64)) hw hRR3
 replace hR29 := hR29.mono hle7
 replace hR31 := hR31.mono hle7
 replace hR33 := hR33.mono hle7
 replace hR35 := hR35.mono hle7
 replace ha0_p_b_p_buf := ha0_p_b_p_buf.mono hle7
 replace hw : Ok E I6 (.blk a0b (.cells ⟨[a0_p_tv28, .string a0_p_p_prefix, .int .i64 a0_p_p_top, a0_p_p_nodesv30, a0_p_p_kidsv32, Value.map (some a0_p_topsv), a0_p_b_p_addrv, a0_p_b_p_bufv, a0_p_plansv34]⟩ 105 (0, 0)) :: .blk a0_p_topsv (.map a0_p_topscs a0_p_topsm) :: .row a0_p_b_p_bufv 5 1 a0_p_b_p_bufm a0_p_b_p_bufcs :: F) w := ((hw.front (i := 2) rfl).front (i := 2) rfl).front (i := 2) rfl
 obtain ⟨y9, hy10, hp⟩ := bS hp
 have hc12 := slot_writer_bytes_ok hw hR29 hR31 hR33 ha0_p_tops ha0_p_b_p_addr ha0_p_b_p_buf hR35 hR8 hy10
 refine o_call hf cb_70 rfl rfl hc12 (fun v20 w a hK13 hf => ?_)
 obtain ⟨rv14, rm15, rcs16, rv18, rfl, hw, hRR17, hA19⟩ := hK13
 refine oN <| ct <| wr <| om hf rfl rfl fun a hf => oR hf (nC hf rfl) rfl fun a hf => oR hf (rF hf rfl fd_105_3) rfl fun a hf => om hf rfl rfl fun a hf => ?_
 replace hw : Ok E I6 (.blk a0b (.cells ⟨[a0_p_tv28, .string a0_p_p_prefix, .int .i64 a0_p_p_top, a0_p_p_nodesv30, a0_p_p_kidsv32, Value.map (some a0_p_topsv), rv18, rv14, a0_p_plansv34]⟩ 105 (0, 0)) :: .row rv14 5 1 rm15 rcs16 :: .blk a0_p_topsv (.map a0_p_topscs a0_p_topsm) :: F) w := (hw.front (i := 2) rfl).front (i := 1) rfl
 obtain ⟨hg28, hp⟩ := gS hp
 have hc21 := builder_WriteString_ok hw hA19 hRR17 a1 hg28
 refine o_call hf cb_90 rfl rfl hc21 (fun v22 w a hK23 hf => ?_)
 obtain ⟨v24, m25, cs26, rfl, hw, hRR27⟩ := hK23
 refine oN ?_
 replace hw : Ok E I6 (.blk a0b (.cells ⟨[a0_p_tv28, .string a0_p_p_prefix, .int .i64 a0_p_p_top, a0_p_p_nodesv30, a0_p_p_kidsv32, Value.map (some a0_p_topsv), (.pointer (some ⟨a0b, 6, none⟩)), v24, a0_p_plansv34]⟩ 105 (0, 0)) :: .blk a0_p_topsv (.map a0_p_topscs a0_p_topsm) :: .row v24 5 1 m25 cs26 :: F) w := ((hw.front (i := 1) rfl).front (i := 2) rfl).front (i := 2) rfl
 have ho := oI hp
 subst ho
 exact b_end0 hf results72 ⟨_, rfl, ⟨v24, m25, cs26, (Value.pointer (some ⟨a0b, 6, none⟩)), rfl, (hw.back hle7 sr), hRR27, (OwnA.self _)⟩⟩

theorem slot_writer_branch_ok {E : World} {I : IH} {F : List Atom} {w : World} {a0b : Nat} {a0_p_t : List Node} {a0_p_tv55 : Value} {a0_p_p_prefix : ByteArray} {a0_p_p_top : Int} {a0_p_p_nodes : List Int} {a0_p_p_nodesv57 : Value} {a0_p_p_kids : List Int} {a0_p_p_kidsv59 : Value} {a0_p_tops : List (Int × Int)} {a0_p_topsv : Nat} {a0_p_topsm : Nat} {a0_p_topscs : Array MapEntry} {a0_p_b_p_addrv : Value} {a0_p_b_p_buf : List Int} {a0_p_b_p_bufv : Value} {a0_p_b_p_bufm : Nat} {a0_p_b_p_bufcs : List Value} {a0_p_plans : List Plan} {a0_p_plansv61 : Value} {a1 : Node} {new_a0_p_b_p_buf : List Int} (hw : Ok E I (.blk a0b (.cells ⟨[a0_p_tv55, Value.string a0_p_p_prefix, Value.int .i64 a0_p_p_top, a0_p_p_nodesv57, a0_p_p_kidsv59, Value.map (some a0_p_topsv), a0_p_b_p_addrv, a0_p_b_p_bufv, a0_p_plansv61]⟩ 105 (0, 0)) :: .blk a0_p_topsv (.map a0_p_topscs a0_p_topsm) :: .row a0_p_b_p_bufv 5 1 a0_p_b_p_bufm a0_p_b_p_bufcs :: F) w) (hR56 : RS ek_Node I a0_p_tv55 a0_p_t) (hR58 : RS (ekI .i64) I a0_p_p_nodesv57 a0_p_p_nodes) (hR60 : RS (ekI .i64) I a0_p_p_kidsv59 a0_p_p_kids) (ha0_p_tops : MapR a0_p_topscs a0_p_topsm a0_p_tops) (ha0_p_b_p_addr : OwnA a0b a0_p_b_p_addrv) (ha0_p_b_p_buf : RowR (ekI .u8) I a0_p_b_p_bufcs a0_p_b_p_buf) (hR62 : RS ek_Plan I a0_p_plansv61 a0_p_plans) (hp : slot_writer_branch.f a0_p_t a0_p_p_prefix a0_p_p_top a0_p_p_nodes a0_p_p_kids a0_p_tops a0_p_b_p_buf a0_p_plans a1 = some new_a0_p_b_p_buf) :
  Calls P 73 ⟨[Value.pointer (some ⟨a0b, 0, none⟩), Value.agg ⟨Value.int .i64 a1.kind_ :: Value.string a1.path_ :: Value.bool a1.has_ :: Value.string a1.value_ :: arrC .i64 a1.kids_⟩]⟩ w fun e w' => ∃ v, e = .returned v ∧ ∃ rv14169 : Value, ∃ rm14170 : Nat, ∃ rcs14171 : List Value, ∃ rv14173 : Value, v = Value.tuple ⟨[]⟩ ∧ Ok E I (.blk a0b (.cells ⟨[a0_p_tv55, Value.string a0_p_p_prefix, Value.int .i64 a0_p_p_top, a0_p_p_nodesv57, a0_p_p_kidsv59, Value.map (some a0_p_topsv), rv14173, rv14169, a0_p_plansv61]⟩ 105 (0, 0)) :: .blk a0_p_topsv (.map a0_p_topscs a0_p_topsm) :: .row rv14169 5 1 rm14170 rcs14171 :: F) w' ∧ RowR (ekI .u8) I rcs14171 new_a0_p_b_p_buf ∧ OwnA a0b rv14173 := by
 refine c_enter func73 rfl ntmps73 rfl fun a hf => ?_
 replace hf : Fr 39 [(0, .pointer (some ⟨a0b, 0, none⟩)), (1, Value.agg ⟨.int .i64 a1.kind_ :: .string a1.path_ :: .bool a1.has_ :: .string a1.value_ :: arrC .i64 a1.kids_⟩)] a := hf
 unfold slot_writer_branch.f at hp
 refine wq <| wr ?_
 obtain ⟨b1, w, hrun2, hw⟩ := e_box (P := P) hw hf (e := 51) (x := .tmp 1) rfl (cs := (Value.int .i64 a1.kind_ :: Value.string a1.path_ :: Value.bool a1.has_ :: Value.string a1.value_ :: arrC .i64 a1.kids_)) rfl
 refine o_eff hf (hrun2 ..) rfl fun a hf => oN <| ct <| wq <| wr <| oa hf rfl rfl fun a hf => oN <| ct <| wq <| wq <| wr <| oR hf (rF hf rfl fd_51_4) rfl fun a hf => oR hf (r_loadA hw hf rfl ty_49 0 rfl (vs := (arrC .i64 a1.kids_)) (take_all (by simp [arrC_len])) (by simp [arrC_len])) rfl fun a hf => om hf rfl rfl fun a hf => oN <| ct ?_
 obtain ⟨out45, hp, hq46⟩ := bS hp
 refine c_cutX (fun a w => ∃ y44 : Int, y44 = out45 ∧ Ok E I (.blk b1 (.cells ⟨.int .i64 a1.kind_ :: .string a1.path_ :: .bool a1.has_ :: .string a1.value_ :: arrC .i64 a1.kids_⟩ 51 (0, 0)) :: .blk a0b (.cells ⟨[a0_p_tv55, .string a0_p_p_prefix, .int .i64 a0_p_p_top, a0_p_p_nodesv57, a0_p_p_kidsv59, Value.map (some a0_p_topsv), a0_p_b_p_addrv, a0_p_b_p_bufv, a0_p_plansv61]⟩ 105 (0, 0)) :: .blk a0_p_topsv (.map a0_p_topscs a0_p_topsm) :: .row a0_p_b_p_bufv 5 1 a0_p_b_p_bufm a0_p_b_p_bufcs :: F) w ∧ Fr 39 ([(0, .pointer (some ⟨a0b, 0, none⟩)), (3, .pointer (some ⟨b1, 0, none⟩)), (4, .int .i64 y44)]) a) ?_ ?_
 ·refine wp_block <| c_loop <| c_fuel (slot_writer_branch.l0 a1) out45 (fun (y29, y30) a w => Ok E I (.blk b1 (.cells ⟨.int .i64 a1.kind_ :: .string a1.path_ :: .bool a1.has_ :: .string a1.value_ :: arrC .i64 a1.kids_⟩ 51 (0, 0)) :: .blk a0b (.cells ⟨[a0_p_tv55, .string a0_p_p_prefix, .int .i64 a0_p_p_top, a0_p_p_nodesv57, a0_p_p_kidsv59, Value.map (some a0_p_topsv), a0_p_b_p_addrv, a0_p_b_p_bufv, a0_p_plansv61]⟩ 105 (0, 0)) :: .blk a0_p_topsv (.map a0_p_topscs a0_p_topsm) :: .row a0_p_b_p_bufv 5 1 a0_p_b_p_bufm a0_p_b_p_bufcs :: F) w ∧ Fr 39 ([(0, .pointer (some ⟨a0b, 0, none⟩)), (3, .pointer (some ⟨b1, 0, none⟩)), (4, .int .i64 y29), (8, Value.agg ⟨arrC .i64 a1.kids_⟩), (9, .int .i64 y30)]) a) (fun _ => rfl) ?_ BIG (0, 0) _ _ ⟨hw, hf.to ⟨rfl, rfl, rfl, rfl, rfl, trivial⟩⟩ hp
  intro k st a w hI hp ih
  obtain ⟨y29, y30⟩ := st
  obtain ⟨hw, hf⟩ := hI
  rw [slot_writer_branch.l0] at hp
  refine wq <| wr <| oR hf (iC hf rfl rfl rfl) rfl fun a hf => oN <| ct <| wq <| cC hf rfl (fun hb48 => ?_) (fun hb48 => ?_)
  ·replace hp := cond_t hb48 hp
   refine wp_skip <| ct ?_
   obtain ⟨out56, hp, hq57⟩ := bS hp
   refine c_cut (fun a w => ∃ y55 : Int, y55 = out56 ∧ Ok E I (.blk b1 (.cells ⟨.int .i64 a1.kind_ :: .string a1.path_ :: .bool a1.has_ :: .string a1.value_ :: arrC .i64 a1.kids_⟩ 51 (0, 0)) :: .blk a0b (.cells ⟨[a0_p_tv55, .string a0_p_p_prefix, .int .i64 a0_p_p_top, a0_p_p_nodesv57, a0_p_p_kidsv59, Value.map (some a0_p_topsv), a0_p_b_p_addrv, a0_p_b_p_bufv, a0_p_plansv61]⟩ 105 (0, 0)) :: .blk a0_p_topsv (.map a0_p_topscs a0_p_topsm) :: .row a0_p_b_p_bufv 5 1 a0_p_b_p_bufm a0_p_b_p_bufcs :: F) w ∧ Fr 39 ([(0, .pointer (some ⟨a0b, 0, none⟩)), (3, .pointer (some ⟨b1, 0, none⟩)), (4, .int .i64 y55), (8, Value.agg ⟨arrC .i64 a1.kids_⟩), (9, .int .i64 y30)]) a) ?_ ?_
   ·refine wp_block <| wq <| wr <| om hf rfl rfl fun a hf => ?_
    obtain ⟨hg58, hp⟩ := gS hp
    refine oR hf (r_indexArr hf el_49 ty_3 rfl rfl hg58) rfl fun a hf => oa hf rfl rfl fun a hf => oa hf rfl rfl fun a hf => oN <| ct <| wq <| wr <| om hf rfl rfl fun a hf => oR hf (iC hf rfl rfl rfl) rfl fun a hf => oN <| ct <| cC hf rfl (fun hb59 => ?_) (fun hb59 => ?_)
    ·replace hp := cond_t hb59 hp
     refine wr <| om hf rfl rfl fun a hf => om hf rfl rfl fun a hf => ?_
     obtain ⟨hg60, hp⟩ := gS hp
     refine oR hf (r_shl hf rfl rfl hg60) rfl fun a hf => oR hf (r_or hf rfl rfl) rfl fun a hf => oa hf rfl rfl fun a hf => oN <| c_blockN <| ct ?_
     have ho := oI hp
     subst ho
     exact ⟨(bor .i64 y29 (shl .i64 1 y30)), rfl, hw, hf.to ⟨rfl, rfl, rfl, rfl, rfl, trivial⟩⟩
    ·replace hp := cond_f hb59 hp
     refine wp_skip <| c_blockN <| ct ?_
     have ho := oI hp
     subst ho
     exact ⟨y29, rfl, hw, hf.to ⟨rfl, rfl, rfl, rfl, rfl, trivial⟩⟩
   ·intro a w hM
    obtain ⟨y55, rfl, hw, hf⟩ := hM
    replace hp := hq57
    refine wr <| oR hf (r_add hf rfl rfl) rfl fun a hf => om hf rfl rfl fun a hf => oN <| ct ?_
    exact ih (y55, w64 (y30 + 1)) _ _ ⟨hw, hf.to ⟨rfl, rfl, rfl, rfl, rfl, trivial⟩⟩ hp
  ·replace hp := cond_f hb48 hp
   refine wp_exit <| c_thenE <| c_thenE <| c_exit <| ct ?_
   have ho := oI hp
   subst ho
   exact ⟨y29, rfl, hw, hf.to ⟨rfl, rfl, rfl, trivial⟩⟩
 ·intro a w hM
  obtain ⟨y44, rfl, hw, hf⟩ := hM
  replace hp := hq46
  refine ct <| wq <| wr <| om hf rfl rfl fun a hf => om hf rfl rfl fun a hf => oR hf (r_shr hf rfl rfl (by decide)) rfl fun a hf => om hf rfl rfl fun a hf => ?_
  obtain ⟨w, v62, hrun63, hw, hRR64⟩ := e_buildSlice (P := P) (K := (ekI .i64)) (m := 2) hw hf (parts := [(0, .tmp 22), (1, .tmp 23)]) el_24 ty_3 rfl rfl rfl (ccs := [[Value.int .i64 (shr .i64 y44 8)], [Value.int .i64 y44]]) rfl (xs := [shr .i64 y44 8, y44]) ⟨rfl, rfl, trivial⟩ rfl
  obtain ⟨cs65, hcs⟩ : ∃ cs, cs = ([[Value.int .i64 (shr .i64 y44 8)], [Value.int .i64 y44]] : List (List Value)).flatten := ⟨_, rfl⟩
  rw [← hcs] at hw hRR64; clear hcs
  refine o_eff hf (hrun63 ..) rfl fun a hf => ?_
  have hw : Ok E I (.row v62 3 1 2 cs65 :: .blk b1 (.cells ⟨Value.int .i64 a1.kind_ :: Value.string a1.path_ :: Value.bool a1.has_ :: Value.string a1.value_ :: arrC .i64 a1.kids_⟩ 51 (0, 0)) :: .blk a0b (.cells ⟨[a0_p_tv55, Value.string a0_p_p_prefix, Value.int .i64 a0_p_p_top, a0_p_p_nodesv57, a0_p_p_kidsv59, Value.map (some a0_p_topsv), a0_p_b_p_addrv, a0_p_b_p_bufv, a0_p_plansv61]⟩ 105 (0, 0)) :: .blk a0_p_topsv (.map a0_p_topscs a0_p_topsm) :: .row a0_p_b_p_bufv 5 1 a0_p_b_p_bufm a0_p_b_p_bufcs :: F) w := hw.front (i := 0) rfl
  obtain ⟨I67, hle68, hw, hR69⟩ := row_freeze (K := (ekI .i64)) hw hRR64
  replace hR56 := hR56.mono hle68
  replace hR58 := hR58.mono hle68
  replace hR60 := hR60.mono hle68
  replace hR62 := hR62.mono hle68
  replace ha0_p_b_p_buf := ha0_p_b_p_buf.mono hle68
  replace hw : Ok E I67 (.blk a0b (.cells ⟨[a0_p_tv55, .string a0_p_p_prefix, .int .i64 a0_p_p_top, a0_p_p_nodesv57, a0_p_p_kidsv59, Value.map (some a0_p_topsv), a0_p_b_p_addrv, a0_p_b_p_bufv, a0_p_plansv61]⟩ 105 (0, 0)) :: .blk a0_p_topsv (.map a0_p_topscs a0_p_topsm) :: .row a0_p_b_p_bufv 5 1 a0_p_b_p_bufm a0_p_b_p_bufcs :: .blk b1 (.cells ⟨.int .i64 a1.kind_ :: .string a1.path_ :: .bool a1.has_ :: .string a1.value_ :: arrC .i64 a1.kids_⟩ 51 (0, 0)) :: F) w := ((hw.front (i := 3) rfl).front (i := 3) rfl).front (i := 3) rfl
  obtain ⟨y70, hy71, hp⟩ := bS hp
  have hc73 := slot_writer_bytes_ok hw hR56 hR58 hR60 ha0_p_tops ha0_p_b_p_addr ha0_p_b_p_buf hR62 hR69 hy71
  refine o_call hf cb_70 rfl rfl hc73 (fun v81 w a hK74 hf => ?_)
  obtain ⟨rv75, rm76, rcs77, rv79, rfl, hw, hRR78, hA80⟩ := hK74
  refine oN <| ct <| wq <| wq <| wr <| oR hf (rF hf rfl fd_51_2) rfl fun a hf => oR hf (rL hw hf rfl ty_4 3 rfl rfl) rfl fun a hf => oR hf (r_not hf rfl) rfl fun a hf => oN <| ct <| cC hf rfl (fun hb82 => ?_) (fun hb82 => ?_)
  ·replace hp := cond_t hb82 hp
   refine wq <| wr <| om hf rfl rfl fun a hf => ?_
   obtain ⟨w, v83, hrun84, hw, hRR85⟩ := e_buildSlice (P := P) (K := (ekI .i64)) (m := 1) hw hf (parts := [(0, .const (Value.int .i64 0))]) el_24 ty_3 rfl rfl rfl (ccs := [[Value.int .i64 0]]) rfl (xs := [0]) ⟨rfl, trivial⟩ rfl
   obtain ⟨cs86, hcs⟩ : ∃ cs, cs = ([[Value.int .i64 0]] : List (List Value)).flatten := ⟨_, rfl⟩
   rw [← hcs] at hw hRR85; clear hcs
   refine o_eff hf (hrun84 ..) rfl fun a hf => ?_
   have hw : Ok E I67 (.row v83 3 1 1 cs86 :: .blk a0b (.cells ⟨[a0_p_tv55, Value.string a0_p_p_prefix, Value.int .i64 a0_p_p_top, a0_p_p_nodesv57, a0_p_p_kidsv59, Value.map (some a0_p_topsv), rv79, rv75, a0_p_plansv61]⟩ 105 (0, 0)) :: .blk a0_p_topsv (.map a0_p_topscs a0_p_topsm) :: .row rv75 5 1 rm76 rcs77 :: .blk b1 (.cells ⟨Value.int .i64 a1.kind_ :: Value.string a1.path_ :: Value.bool a1.has_ :: Value.string a1.value_ :: arrC .i64 a1.kids_⟩ 51 (0, 0)) :: F) w := hw.front (i := 0) rfl
   obtain ⟨I88, hle89, hw, hR90⟩ := row_freeze (K := (ekI .i64)) hw hRR85
   replace hR69 := hR69.mono hle89
   replace hR56 := hR56.mono hle89
   replace hR58 := hR58.mono hle89
   replace hR60 := hR60.mono hle89
   replace hR62 := hR62.mono hle89
   replace hRR78 := hRR78.mono hle89
   replace hw : Ok E I88 (.blk a0b (.cells ⟨[a0_p_tv55, .string a0_p_p_prefix, .int .i64 a0_p_p_top, a0_p_p_nodesv57, a0_p_p_kidsv59, Value.map (some a0_p_topsv), rv79, rv75, a0_p_plansv61]⟩ 105 (0, 0)) :: .blk a0_p_topsv (.map a0_p_topscs a0_p_topsm) :: .row rv75 5 1 rm76 rcs77 :: .blk b1 (.cells ⟨.int .i64 a1.kind_ :: .string a1.path_ :: .bool a1.has_ :: .string a1.value_ :: arrC .i64 a1.kids_⟩ 51 (0, 0)) :: F) w := ((hw.front (i := 2) rfl).front (i := 2) rfl).front (i := 2) rfl
   obtain ⟨y91, hy92, hp⟩ := bS hp
   have hc94 := slot_writer_bytes_ok hw hR56 hR58 hR60 ha0_p_tops hA80 hRR78 hR62 hR90 hy92
   refine o_call hf cb_70 rfl rfl hc94 (fun v102 w a hK95 hf => ?_)
   obtain ⟨rv96, rm97, rcs98, rv100, rfl, hw, hRR99, hA101⟩ := hK95
   refine oN <| ct <| wp_ret <| c_thenR ?_
   replace hw : Ok E I88 (.blk a0b (.cells ⟨[a0_p_tv55, .string a0_p_p_prefix, .int .i64 a0_p_p_top, a0_p_p_nodesv57, a0_p_p_kidsv59, Value.map (some a0_p_topsv), rv100, rv96, a0_p_plansv61]⟩ 105 (0, 0)) :: .blk a0_p_topsv (.map a0_p_topscs a0_p_topsm) :: .row rv96 5 1 rm97 rcs98 :: F) w := hw.sub (scc (scc (scc (sc sr))))
   have ho := oI hp
   subst ho
   exact b_ret0 hf results73 ⟨_, rfl, ⟨rv96, rm97, rcs98, rv100, rfl, (hw.back (IH.le_trans hle68 hle89) sr), hRR99, hA101⟩⟩
  ·replace hp := cond_f hb82 hp
   refine wp_skip <| ct <| wq <| wr <| om hf rfl rfl fun a hf => ?_
   obtain ⟨w, v103, hrun104, hw, hRR105⟩ := e_buildSlice (P := P) (K := (ekI .i64)) (m := 1) hw hf (parts := [(0, .const (Value.int .i64 1))]) el_24 ty_3 rfl rfl rfl (ccs := [[Value.int .i64 1]]) rfl (xs := [1]) ⟨rfl, trivial⟩ rfl
   obtain ⟨cs106, hcs⟩ : ∃ cs, cs = ([[Value.int .i64 1]] : List (List Value)).flatten := ⟨_, rfl⟩
   rw [← hcs] at hw hRR105; clear hcs
   refine o_eff hf (hrun104 ..) rfl fun a hf => ?_
   have hw : Ok E I67 (.row v103 3 1 1 cs106 :: .blk a0b (.cells ⟨[a0_p_tv55, Value.string a0_p_p_prefix, Value.int .i64 a0_p_p_top, a0_p_p_nodesv57, a0_p_p_kidsv59, Value.map (some a0_p_topsv), rv79, rv75, a0_p_plansv61]⟩ 105 (0, 0)) :: .blk a0_p_topsv (.map a0_p_topscs a0_p_topsm) :: .row rv75 5 1 rm76 rcs77 :: .blk b1 (.cells ⟨Value.int .i64 a1.kind_ :: Value.string a1.path_ :: Value.bool a1.has_ :: Value.string a1.value_ :: arrC .i64 a1.kids_⟩ 51 (0, 0)) :: F) w := hw.front (i := 0) rfl
   obtain ⟨I108, hle109, hw, hR110⟩ := row_freeze (K := (ekI .i64)) hw hRR105
   replace hR69 := hR69.mono hle109
   replace hR56 := hR56.mono hle109
   replace hR58 := hR58.mono hle109
   replace hR60 := hR60.mono hle109
   replace hR62 := hR62.mono hle109
   replace hRR78 := hRR78.mono hle109
   replace hw : Ok E I108 (.blk a0b (.cells ⟨[a0_p_tv55, .string a0_p_p_prefix, .int .i64 a0_p_p_top, a0_p_p_nodesv57, a0_p_p_kidsv59, Value.map (some a0_p_topsv), rv79, rv75, a0_p_plansv61]⟩ 105 (0, 0)) :: .blk a0_p_topsv (.map a0_p_topscs a0_p_topsm) :: .row rv75 5 1 rm76 rcs77 :: .blk b1 (.cells ⟨.int .i64 a1.kind_ :: .string a1.path_ :: .bool a1.has_ :: .string a1.value_ :: arrC .i64 a1.kids_⟩ 51 (0, 0)) :: F) w := ((hw.front (i := 2) rfl).front (i := 2) rfl).front (i := 2) rfl
   obtain ⟨y111, hy112, hp⟩ := bS hp
   have hc114 := slot_writer_bytes_ok hw hR56 hR58 hR60 ha0_p_tops hA80 hRR78 hR62 hR110 hy112
   refine o_call hf cb_70 rfl rfl hc114 (fun v122 w a hK115 hf => ?_)
   obtain ⟨rv116, rm117, rcs118, rv120, rfl, hw, hRR119, hA121⟩ := hK115
   refine oN <| ct <| wr <| om hf rfl rfl fun a hf => oR hf (rF hf rfl fd_51_3) rfl fun a hf => oR hf (rL hw hf rfl ty_9 3 rfl rfl) rfl fun a hf => ?_
   replace hw : Ok E I108 (.blk a0b (.cells ⟨[a0_p_tv55, .string a0_p_p_prefix, .int .i64 a0_p_p_top, a0_p_p_nodesv57, a0_p_p_kidsv59, Value.map (some a0_p_topsv), rv120, rv116, a0_p_plansv61]⟩ 105 (0, 0)) :: .blk a0_p_topsv (.map a0_p_topscs a0_p_topsm) :: .row rv116 5 1 rm117 rcs118 :: .blk b1 (.cells ⟨.int .i64 a1.kind_ :: .string a1.path_ :: .bool a1.has_ :: .string a1.value_ :: arrC .i64 a1.kids_⟩ 51 (0, 0)) :: F) w := ((hw.front (i := 2) rfl).front (i := 2) rfl).front (i := 2) rfl
   obtain ⟨y123, hy124, hp⟩ := bS hp
   have hc126 := slot_writer_value_ok hw hR56 hR58 hR60 ha0_p_tops hA121 hRR119 hR62 hy124
   refine o_call hf cb_72 rfl rfl hc126 (fun v134 w a hK127 hf => ?_)
   obtain ⟨rv128, rm129, rcs130, rv132, rfl, hw, hRR131, hA133⟩ := hK127
   refine oN ?_
   replace hw : Ok E I108 (.blk a0b (.cells ⟨[a0_p_tv55, .string a0_p_p_prefix, .int .i64 a0_p_p_top, a0_p_p_nodesv57, a0_p_p_kidsv59, Value.map (some a0_p_topsv), rv132, rv128, a0_p_plansv61]⟩ 105 (0, 0)) :: .blk a0_p_topsv (.map a0_p_topscs a0_p_topsm) :: .row rv128 5 1 rm129 rcs130 :: F) w := hw.sub (scc (scc (scc (sc sr))))
   have ho := oI hp
   subst ho
   exact b_end0 hf results73 ⟨_, rfl, ⟨rv128, rm129, rcs130, rv132, rfl, (hw.back (IH.le_trans hle68 hle109) sr), hRR131, hA133⟩⟩
end Go.Lf
