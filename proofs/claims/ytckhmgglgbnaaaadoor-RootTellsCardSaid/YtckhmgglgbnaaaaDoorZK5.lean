/- The Go functions compute the plain Lean functions (printed by our lift.py). -/
import Derived.Test.YtckhmgglgbnaaaaDoorZD
import Derived.Test.YtckhmgglgbnaaaaDoorZF
import Derived.Test.YtckhmgglgbnaaaaDoorJ
import Derived.Test.YtckhmgglgbnaaaaDoorZK2
import Derived.Test.YtckhmgglgbnaaaaDoorZK4
set_option linter.unusedVariables false
set_option linter.unusedSimpArgs false
set_option maxHeartbeats 1000000
set_option maxRecDepth 20000
namespace Go.Lf
open Go
theorem trie_Same_ok {E : World} {I : IH} {F : List Atom} {w : World} {a0 : List Node} {a0v641 : Value} {a1 : List Node} {a1v643 : Value} {res0 : Bool} (hw : Ok E I (F) w) (hG : Gl I) (hR642 : RS ek_Node I a0v641 a0) (hR644 : RS ek_Node I a1v643 a1) (hp : trie_Same.f a0 a1 = some res0) :
  Calls P 87 ⟨[a0v641, a1v643]⟩ w fun e w' => ∃ v, e = .returned v ∧ v = Value.bool res0 ∧ Ok E I (F) w' := by
 refine c_enter Go.Proofs.Tryd.func87 rfl Go.Proofs.Tryd.ntmps87 rfl fun a hf => ?_
 replace hf : Fr 26 [(0, a0v641), (1, a1v643)] a := hf
 unfold trie_Same.f at hp
 refine wq <| wr <| oa hf rfl rfl fun a hf => oN <| ct <| wq <| wq <| wr <| om hf rfl rfl fun a hf => oR hf (r_lenL (K := ek_Node) hf el_23 rfl (hR642.rd hw)) rfl fun a hf => om hf rfl rfl fun a hf => oR hf (r_lenL (K := ek_Node) hf el_23 rfl (hR644.rd hw)) rfl fun a hf => oR hf (iC hf rfl rfl rfl) rfl fun a hf => oN <| ct <| cC hf rfl (fun hb1 => ?_) (fun hb1 => ?_)
 ·replace hp := cond_t hb1 hp
  refine wq <| wr <| oa hf rfl rfl fun a hf => oN <| ct <| wp_ret <| c_thenR ?_
  have ho := oI hp
  subst ho
  exact b_ret1 hf Go.Proofs.Tryd.results87 rfl ⟨_, rfl, ⟨rfl, hw⟩⟩
 ·replace hp := cond_f hb1 hp
  refine wp_skip <| ct <| wq <| wq <| wr <| om hf rfl rfl fun a hf => oR hf (r_lenL (K := ek_Node) hf el_23 rfl (hR642.rd hw)) rfl fun a hf => om hf rfl rfl fun a hf => oN <| ct ?_
  obtain ⟨out19, hp, hq20⟩ := bS hp
  refine c_cutX (fun a w => (.inl ()) = out19 ∧ Ok E I (F) w ∧ Fr 26 ([]) a) ?_ ?_
  ·refine wp_block <| c_loop <| c_fuel (trie_Same.l0 a0 a1) out19 (fun (y13 : Int) a w => Ok E I (F) w ∧ Fr 26 ([(0, a0v641), (1, a1v643), (12, .int .i64 (a0.length : Int)), (13, .int .i64 y13)]) a) (fun _ => rfl) ?_ BIG 0 _ _ ⟨hw, hf.to ⟨rfl, rfl, rfl, rfl, trivial⟩⟩ hp
   intro k y13 a w hI hp ih
   obtain ⟨hw, hf⟩ := hI
   rw [trie_Same.l0] at hp
   refine wq <| wr <| oR hf (iC hf rfl rfl rfl) rfl fun a hf => oN <| ct <| wq <| cC hf rfl (fun hb22 => ?_) (fun hb22 => ?_)
   ·replace hp := cond_t hb22 hp
    refine wp_skip <| ct <| wq <| wp_block <| wq <| wr <| om hf rfl rfl fun a hf => oa hf rfl rfl fun a hf => oN <| ct <| wq <| c_drawn mix [] (.rd 0 (.rd 1 (.rd 2 (.rd 3 (.rd 4 (.rd 5 (.rd 6 (.rd 7 (.rd 8 .done))))))))) (by kernel_rfl) hw (fun w => Ok E I (F) w) (fun w hw => ⟨hw.sub sr, ?_⟩)
    refine tm rfl hf rfl rfl fun a hf => tm rfl hf rfl rfl fun a hf => ?_
    obtain ⟨hg24, hp⟩ := gS hp
    refine tR rfl hf (fun w hw => rI (K := ek_Node) hf el_23 rfl rfl (hR642.rd hw) hg24) rfl fun a hf => tR rfl hf (fun w hw => r_loadHP (K := ek_Node) hf rfl ty_55 (hR642.rd hw) hg24 rfl (vs := (Value.int .i64 ((gt a0 y13).kind_) :: Value.string ((gt a0 y13).path_) :: Value.bool ((gt a0 y13).has_) :: Value.string ((gt a0 y13).value_) :: arrC .i64 ((gt a0 y13).kids_))) (fun cs h => Node_all h) (by simp [arrC_len])) rfl fun a hf => tm rfl hf rfl rfl fun a hf => tm rfl hf rfl rfl fun a hf => ?_
    obtain ⟨hg25, hp⟩ := gS hp
    refine tR rfl hf (fun w hw => rI (K := ek_Node) hf el_23 rfl rfl (hR644.rd hw) hg25) rfl fun a hf => tR rfl hf (fun w hw => r_loadHP (K := ek_Node) hf rfl ty_55 (hR644.rd hw) hg25 rfl (vs := (Value.int .i64 ((gt a1 y13).kind_) :: Value.string ((gt a1 y13).path_) :: Value.bool ((gt a1 y13).has_) :: Value.string ((gt a1 y13).value_) :: arrC .i64 ((gt a1 y13).kids_))) (fun cs h => Node_all h) (by simp [arrC_len])) rfl fun a hf => tR rfl hf (fun w hw => r_neq_Node hf (x := (gt a0 y13)) (y := (gt a1 y13)) rfl rfl) rfl fun a hf => t_done <| ct <| cC hf rfl (fun hb26 => ?_) (fun hb26 => ?_)
    ·replace hp := cond_t hb26 hp
     refine wq <| wr <| oa hf rfl rfl fun a hf => oN <| ct <| wp_ret <| c_blockR <| c_thenR <| c_thenR <| c_blockR <| c_thenR ?_
     have ho := oI hp
     subst ho
     replace hp := hq20
     refine c_thenR ?_
     have ho := oI hp
     subst ho
     exact b_ret1 hf Go.Proofs.Tryd.results87 rfl ⟨_, rfl, ⟨rfl, hw⟩⟩
    ·replace hp := cond_f hb26 hp
     refine wp_skip <| c_blockN <| ct <| wr <| oR hf (r_add hf rfl rfl) rfl fun a hf => om hf rfl rfl fun a hf => oN <| ct ?_
     exact ih (w64 (y13 + 1)) _ _ ⟨hw, hf.to ⟨rfl, rfl, rfl, rfl, trivial⟩⟩ hp
   ·replace hp := cond_f hb22 hp
    refine wp_exit <| c_thenE <| c_thenE <| c_exit <| ct ?_
    have ho := oI hp
    subst ho
    exact ⟨rfl, hw, hf.to trivial⟩
  ·intro a w hM
   obtain ⟨rfl, hw, hf⟩ := hM
   replace hp := hq20
   refine ct <| wq <| wr <| oa hf rfl rfl fun a hf => oN <| ct <| wp_ret ?_
   have ho := oI hp
   subst ho
   exact b_ret1 hf Go.Proofs.Tryd.results87 rfl ⟨_, rfl, ⟨rfl, hw⟩⟩

theorem trie_walked_ok {E : World} {I : IH} {F : List Atom} {w : World} {a0 : List Node} {a0v1 : Value} {res0 : trie_walker_T} {res1 : Bool} (hw : Ok E I (F) w) (hG : Gl I) (hR2 : RS ek_Node I a0v1 a0) (hp : trie_walked.f a0 = some (res0, res1)) :
  Calls P 61 ⟨[a0v1]⟩ w fun e w' => ∃ v, e = .returned v ∧ ∃ I2 : IH, ∃ rb185 : Nat, ∃ rvv179 : Value, ∃ rvv181 : Value, ∃ rvv183 : Value, v = Value.tuple ⟨[Value.pointer (some ⟨rb185, 0, none⟩), Value.bool res1]⟩ ∧ IH.le I I2 ∧ Ok E I2 (.blk rb185 (.cells ⟨[rvv179, Value.int .i64 res0.p_next_, rvv181, rvv183]⟩ 139 (0, 0)) :: F) w' ∧ RS ek_Node I2 rvv179 res0.p_t_ ∧ RS ek_Pair I2 rvv181 res0.p_l_ ∧ RS ekS I2 rvv183 res0.p_paths_ := by
 refine c_enter Go.Proofs.Tryd.func61 rfl Go.Proofs.Tryd.ntmps61 rfl fun a hf => ?_
 replace hf : Fr 34 [(0, a0v1)] a := hf
 unfold trie_walked.f at hp
 refine wq <| wr <| oa hf rfl rfl fun a hf => oa hf rfl rfl fun a hf => oN <| ct <| wq <| wr <| om hf rfl rfl fun a hf => oR hf (r_build hf bd_139 (vs := [a0v1]) rfl ⟨hR2.one, trivial⟩ (by decide) (out := [a0v1, Value.int .i64 0, Value.slice none 0 0, Value.slice none 0 0]) rfl) rfl fun a hf => ?_
 obtain ⟨b1, w, hrun2, hw⟩ := e_box (P := P) hw hf (e := 139) (x := .tmp 8) rfl (cs := [a0v1, Value.int .i64 0, Value.slice none 0 0, Value.slice none 0 0]) rfl
 refine o_eff hf (hrun2 ..) rfl fun a hf => oa hf rfl rfl fun a hf => oN <| ct <| wq ?_
 replace hw := hw.nilrow 58 2
 have hRR1069 : RowR ek_Pair I [] [] := RowR.nil
 replace hw := hw.nilrow 9 1
 have hRR1071 : RowR ekS I [] [] := RowR.nil
 obtain ⟨out1102, hp, hq1103⟩ := bS hp
 refine c_cut (fun a w => ∃ y1090 : List Pair, ∃ y1095 : List ByteArray, ∃ y1100 : Int, ∃ y1101 : Bool, ∃ yv1091 : Value, ∃ m1092 : Nat, ∃ cs1093 : List Value, ∃ yv1096 : Value, ∃ m1097 : Nat, ∃ cs1098 : List Value, (y1090, y1095, y1100, y1101) = out1102 ∧ Ok E I (.row yv1096 9 1 m1097 cs1098 :: .row yv1091 58 2 m1092 cs1093 :: .blk b1 (.cells ⟨[a0v1, .int .i64 y1100, yv1091, yv1096]⟩ 139 (0, 0)) :: F) w ∧ Fr 34 ([(0, a0v1), (4, .pointer (some ⟨b1, 0, none⟩)), (17, .bool y1101)]) a ∧ RowR ek_Pair I cs1093 y1090 ∧ RowR ekS I cs1098 y1095) ?_ ?_
 ·refine wr <| om hf rfl rfl fun a hf => oR hf (r_lenL (K := ek_Node) hf el_23 rfl (hR2.rd hw)) rfl fun a hf => oR hf (iC hf rfl rfl rfl) rfl fun a hf => om hf rfl rfl fun a hf => g_split hf (g := 13) rfl (fun hb1104 hf => ?_) (fun hb1104 hf => ?_)
  ·replace hp := cond_t hb1104 hp
   refine oW hf (g := 13) rfl rfl <| om hf rfl rfl fun a hf => oW hf (g := 13) rfl rfl ?_
   replace hw : Ok E I (.row (.slice none 0 0) 9 1 0 [] :: .row (.slice none 0 0) 58 2 0 [] :: .blk b1 (.cells ⟨[a0v1, .int .i64 0, (.slice none 0 0), (.slice none 0 0)]⟩ 139 (0, 0)) :: F) w := hw.front (i := 0) rfl
   replace hw : Ok E I (.row (.slice none 0 0) 58 2 0 [] :: .row (.slice none 0 0) 9 1 0 [] :: .blk b1 (.cells ⟨[a0v1, .int .i64 0, (.slice none 0 0), (.slice none 0 0)]⟩ 139 (0, 0)) :: F) w := hw.front (i := 1) rfl
   replace hw : Ok E I (.blk b1 (.cells ⟨[a0v1, .int .i64 0, (.slice none 0 0), (.slice none 0 0)]⟩ 139 (0, 0)) :: .row (.slice none 0 0) 58 2 0 [] :: .row (.slice none 0 0) 9 1 0 [] :: F) w := hw.front (i := 2) rfl
   obtain ⟨y1110, hy1109, hp⟩ := bS hp
   obtain ⟨y1105, y1106, y1107, y1108⟩ := y1110
   have hc1111 := trie_walker_walk_ok BIG hw hG hR2 hRR1069 hRR1071 hy1109
   refine o_call hf cb_85 rfl rfl hc1111 (fun v1121 w a hK1112 hf => ?_)
   obtain ⟨rv1113, rm1114, rcs1115, rv1117, rm1118, rcs1119, rfl, hw, hRR1116, hRR1120⟩ := hK1112
   refine oW hf (g := 13) rfl rfl <| oR hf (r_not hf rfl) rfl fun a hf => oR hf (pT hf rfl rfl) rfl fun a hf => oN <| ct ?_
   have ho := oI hp
   subst ho
   replace hw : Ok E I (.blk b1 (.cells ⟨[a0v1, .int .i64 y1106, rv1113, rv1117]⟩ 139 (0, 0)) :: .row rv1113 58 2 rm1114 rcs1115 :: .row rv1117 9 1 rm1118 rcs1119 :: F) w := hw.front (i := 0) rfl
   replace hw : Ok E I (.row rv1113 58 2 rm1114 rcs1115 :: .blk b1 (.cells ⟨[a0v1, .int .i64 y1106, rv1113, rv1117]⟩ 139 (0, 0)) :: .row rv1117 9 1 rm1118 rcs1119 :: F) w := hw.front (i := 1) rfl
   replace hw : Ok E I (.row rv1117 9 1 rm1118 rcs1119 :: .row rv1113 58 2 rm1114 rcs1115 :: .blk b1 (.cells ⟨[a0v1, .int .i64 y1106, rv1113, rv1117]⟩ 139 (0, 0)) :: F) w := hw.front (i := 2) rfl
   exact ⟨y1107, y1108, y1106, (!y1105), rv1113, rm1114, rcs1115, rv1117, rm1118, rcs1119, rfl, hw, hf.to ⟨rfl, rfl, rfl, trivial⟩, hRR1116, hRR1120⟩
  ·replace hp := cond_f hb1104 hp
   refine oS hf (g := 13) rfl rfl rfl rfl rfl rfl fun a hf => oS hf (g := 13) rfl rfl rfl rfl rfl rfl fun a hf => oS hf (g := 13) rfl rfl rfl rfl rfl rfl fun a hf => oR hf (pF hf rfl rfl) rfl fun a hf => oN <| ct ?_
   have ho := oI hp
   subst ho
   exact ⟨([] : List Pair), ([] : List ByteArray), 0, false, (Value.slice none 0 0), 0, [], (Value.slice none 0 0), 0, [], rfl, hw, hf.to ⟨rfl, rfl, rfl, trivial⟩, hRR1069, hRR1071⟩
 ·intro a w hM
  obtain ⟨y1090, y1095, y1100, y1101, yv1091, m1092, cs1093, yv1096, m1097, cs1098, rfl, hw, hf, hRR1094, hRR1099⟩ := hM
  replace hp := hq1103
  refine cC hf rfl (fun hb1122 => ?_) (fun hb1122 => ?_)
  ·replace hp := cond_t hb1122 hp
   refine wq <| wr <| om hf rfl rfl fun a hf => oa hf rfl rfl fun a hf => oa hf rfl rfl fun a hf => oN <| ct <| wp_ret <| c_thenR ?_
   have hw : Ok E I (.row yv1091 58 2 m1092 cs1093 :: .row yv1096 9 1 m1097 cs1098 :: .blk b1 (.cells ⟨[a0v1, Value.int .i64 y1100, yv1091, yv1096]⟩ 139 (0, 0)) :: F) w := hw.front (i := 1) rfl
   obtain ⟨I1123, hle1124, hw, hR1125⟩ := row_freeze (K := ek_Pair) hw hRR1094
   replace hG := hG.mono hle1124
   replace hR2 := hR2.mono hle1124
   replace hRR1099 := hRR1099.mono hle1124
   have hw : Ok E I1123 (.row yv1096 9 1 m1097 cs1098 :: .blk b1 (.cells ⟨[a0v1, Value.int .i64 y1100, yv1091, yv1096]⟩ 139 (0, 0)) :: F) w := hw.front (i := 0) rfl
   obtain ⟨I1126, hle1127, hw, hR1128⟩ := row_freeze (K := ekS) hw hRR1099
   replace hG := hG.mono hle1127
   replace hR2 := hR2.mono hle1127
   replace hR1125 := hR1125.mono hle1127
   have ho := oI hp
   simp only [Prod.mk.injEq] at ho
   obtain ⟨rfl, rfl⟩ := ho
   exact b_ret2 hf Go.Proofs.Tryd.results61 rfl rfl ⟨_, rfl, ⟨I1126, b1, a0v1, yv1091, yv1096, rfl, (IH.le_trans hle1124 hle1127), hw, hR2, hR1125, hR1128⟩⟩
  ·replace hp := cond_f hb1122 hp
   refine wp_skip <| ct <| wq <| wr <| om hf rfl rfl fun a hf => oR hf (nC hf rfl) rfl fun a hf => oR hf (rF hf rfl fd_139_2) rfl fun a hf => oR hf (rL hw hf rfl ty_45 2 rfl rfl) rfl fun a hf => ?_
   have hw : Ok E I (.row yv1091 58 2 m1092 cs1093 :: .row yv1096 9 1 m1097 cs1098 :: .blk b1 (.cells ⟨[a0v1, Value.int .i64 y1100, yv1091, yv1096]⟩ 139 (0, 0)) :: F) w := hw.front (i := 1) rfl
   obtain ⟨I627, hle628, hw, hR629⟩ := row_freeze (K := ek_Pair) hw hRR1094
   replace hG := hG.mono hle628
   replace hR2 := hR2.mono hle628
   replace hRR1099 := hRR1099.mono hle628
   obtain ⟨y633, hy632, hp⟩ := bS hp
   obtain ⟨y630, y631⟩ := y633
   have hc634 := trie_Build_ok hw hG hR629 hy632
   refine o_call hf cb_86 rfl rfl hc634 (fun v638 w a hK635 hf => ?_)
   obtain ⟨I2_635, rvv636, rfl, hle639, hw, hR637⟩ := hK635
   replace hG := hG.mono hle639
   replace hR2 := hR2.mono hle639
   replace hR629 := hR629.mono hle639
   replace hRR1099 := hRR1099.mono hle639
   refine om hf rfl rfl fun a hf => oR hf (rE hf rfl rfl) rfl fun a hf => oR hf (rE hf rfl rfl) rfl fun a hf => oa hf rfl rfl fun a hf => oa hf rfl rfl fun a hf => oN <| ct ?_
   obtain ⟨out43, hp, hq44⟩ := bS hp
   refine c_cut (fun a w => ∃ y42 : Bool, y42 = out43 ∧ Ok E I2_635 (.row yv1096 9 1 m1097 cs1098 :: .blk b1 (.cells ⟨[a0v1, .int .i64 y1100, yv1091, yv1096]⟩ 139 (0, 0)) :: F) w ∧ Fr 34 ([(2, .pointer (some ⟨b1, 0, none⟩)), (3, .bool y42)]) a) ?_ ?_
   ·refine wr <| om hf rfl rfl fun a hf => om hf rfl rfl fun a hf => om hf rfl rfl fun a hf => g_split hf (g := 29) rfl (fun hb45 hf => ?_) (fun hb45 hf => ?_)
    ·replace hp := cond_t hb45 hp
     refine oW hf (g := 29) rfl rfl <| om hf rfl rfl fun a hf => oW hf (g := 29) rfl rfl <| om hf rfl rfl fun a hf => oW hf (g := 29) rfl rfl ?_
     obtain ⟨y46, hy47, hp⟩ := bS hp
     have hc49 := trie_Same_ok hw hG hR2 hR637 hy47
     refine o_call hf cb_87 rfl rfl hc49 (fun v51 w a hK50 hf => ?_)
     obtain ⟨rfl, hw⟩ := hK50
     refine oR hf (pT hf rfl rfl) rfl fun a hf => oa hf rfl rfl fun a hf => oa hf rfl rfl fun a hf => oN <| ct ?_
     have ho := oI hp
     subst ho
     exact ⟨y46, rfl, hw, hf.to ⟨rfl, rfl, trivial⟩⟩
    ·replace hp := cond_f hb45 hp
     refine oS hf (g := 29) rfl rfl rfl rfl rfl rfl fun a hf => oS hf (g := 29) rfl rfl rfl rfl rfl rfl fun a hf => oS hf (g := 29) rfl rfl rfl rfl rfl rfl fun a hf => oR hf (pF hf rfl rfl) rfl fun a hf => oa hf rfl rfl fun a hf => oa hf rfl rfl fun a hf => oN <| ct ?_
     have ho := oI hp
     subst ho
     exact ⟨false, rfl, hw, hf.to ⟨rfl, rfl, trivial⟩⟩
   ·intro a w hM
    obtain ⟨y42, rfl, hw, hf⟩ := hM
    replace hp := hq44
    refine wp_ret ?_
    have hw : Ok E I2_635 (.row yv1096 9 1 m1097 cs1098 :: .blk b1 (.cells ⟨[a0v1, Value.int .i64 y1100, yv1091, yv1096]⟩ 139 (0, 0)) :: F) w := hw.front (i := 0) rfl
    obtain ⟨I52, hle53, hw, hR54⟩ := row_freeze (K := ekS) hw hRR1099
    replace hG := hG.mono hle53
    replace hR2 := hR2.mono hle53
    replace hR629 := hR629.mono hle53
    have ho := oI hp
    simp only [Prod.mk.injEq] at ho
    obtain ⟨rfl, rfl⟩ := ho
    exact b_ret2 hf Go.Proofs.Tryd.results61 rfl rfl ⟨_, rfl, ⟨I52, b1, a0v1, yv1091, yv1096, rfl, (IH.le_trans (IH.le_trans hle628 hle639) hle53), hw, hR2, hR629, hR54⟩⟩

theorem trie_Good_ok {E : World} {I : IH} {F : List Atom} {w : World} {a0 : List Node} {a0v1 : Value} {res0 : Bool} (hw : Ok E I (F) w) (hG : Gl I) (hR2 : RS ek_Node I a0v1 a0) (hp : trie_Good.f a0 = some res0) :
  Calls P 40 ⟨[a0v1]⟩ w fun e w' => ∃ v, e = .returned v ∧ v = Value.bool res0 ∧ Ok E I (F) w' := by
 refine c_enter Go.Proofs.Tryd.func40 rfl Go.Proofs.Tryd.ntmps40 rfl fun a hf => ?_
 replace hf : Fr 11 [(0, a0v1)] a := hf
 unfold trie_Good.f at hp
 refine wq <| wr <| oa hf rfl rfl fun a hf => oN <| ct <| wq <| wr <| om hf rfl rfl fun a hf => ?_
 obtain ⟨y58, hy57, hp⟩ := bS hp
 obtain ⟨y55, y56⟩ := y58
 have hc59 := trie_walked_ok hw hG hR2 hy57
 refine o_call hf cb_61 rfl rfl hc59 (fun v69 w a hK60 hf => ?_)
 obtain ⟨I2_60, rb67, rvv61, rvv63, rvv65, rfl, hle70, hw, hR62, hR64, hR66⟩ := hK60
 replace hG := hG.mono hle70
 replace hR2 := hR2.mono hle70
 refine om hf rfl rfl fun a hf => oR hf (rE hf rfl rfl) rfl fun a hf => oR hf (rE hf rfl rfl) rfl fun a hf => oa hf rfl rfl fun a hf => oa hf rfl rfl fun a hf => oN <| ct <| wq <| wr <| om hf rfl rfl fun a hf => oa hf rfl rfl fun a hf => oN <| ct <| wp_ret ?_
 replace hw : Ok E I2_60 (F) w := hw.sub (sc sr)
 have ho := oI hp
 subst ho
 exact b_ret1 hf Go.Proofs.Tryd.results40 rfl ⟨_, rfl, ⟨rfl, (hw.back hle70 sr)⟩⟩

theorem root_item_r1_ok {E : World} {I : IH} {F : List Atom} {w : World} {a0 : Node} {a1 : List ByteArray} {a1v : Value} {a1m : Nat} {a1cs : List Value} {res0 : Item} (hw : Ok E I (.row a1v 9 1 a1m a1cs :: F) w) (hG : Gl I) (ha1 : RowR ekS I a1cs a1) (hp : root_item_r1.f a0 a1 = some res0) :
  Calls P 42 ⟨[Value.agg ⟨Value.int .i64 a0.kind_ :: Value.string a0.path_ :: Value.bool a0.has_ :: Value.string a0.value_ :: arrC .i64 a0.kids_⟩, a1v]⟩ w fun e w' => ∃ v, e = .returned v ∧ ∃ I2 : IH, ∃ rvv187 : Value, v = Value.agg ⟨[Value.int .i64 res0.kind_, Value.string res0.path_, Value.bool res0.has_, Value.string res0.value_, Value.int .i64 res0.mask_, rvv187]⟩ ∧ IH.le I I2 ∧ Ok E I2 (.row a1v 9 1 a1m a1cs :: F) w' ∧ RS ekS I2 rvv187 res0.hashes_ := by
 refine c_enter Go.Proofs.Tryd.func42 rfl Go.Proofs.Tryd.ntmps42 rfl fun a hf => ?_
 replace hf : Fr 42 [(0, Value.agg ⟨.int .i64 a0.kind_ :: .string a0.path_ :: .bool a0.has_ :: .string a0.value_ :: arrC .i64 a0.kids_⟩), (1, a1v)] a := hf
 unfold root_item_r1.f at hp
 refine wq <| wr ?_
 obtain ⟨b1, w, hrun2, hw⟩ := e_box (P := P) hw hf (e := 55) (x := .tmp 0) rfl (cs := (Value.int .i64 a0.kind_ :: Value.string a0.path_ :: Value.bool a0.has_ :: Value.string a0.value_ :: arrC .i64 a0.kids_)) rfl
 refine o_eff hf (hrun2 ..) rfl fun a hf => ?_
 obtain ⟨b4, w, hrun5, hw⟩ := e_alloc (P := P) (a := a) hw ty_32
 replace hw : Ok E I (.blk b4 (.cells ⟨[.int .i64 0, .string (⟨#[]⟩ : ByteArray), .bool false, .string (⟨#[]⟩ : ByteArray), .int .i64 0, .slice none 0 0]⟩ 32 (0, 0)) :: .blk b1 (.cells ⟨.int .i64 a0.kind_ :: .string a0.path_ :: .bool a0.has_ :: .string a0.value_ :: arrC .i64 a0.kids_⟩ 55 (0, 0)) :: .row a1v 9 1 a1m a1cs :: F) w := hw
 refine o_eff hf (hrun5 ..) rfl fun a hf => oN <| ct <| wq <| wr <| oR hf (rF hf rfl fd_55_0) rfl fun a hf => oR hf (rL hw hf rfl ty_3 1 rfl rfl) rfl fun a hf => oR hf (rF hf rfl fd_55_1) rfl fun a hf => oR hf (rL hw hf rfl ty_9 1 rfl rfl) rfl fun a hf => oR hf (rF hf rfl fd_55_2) rfl fun a hf => oR hf (rL hw hf rfl ty_4 1 rfl rfl) rfl fun a hf => oR hf (rF hf rfl fd_55_3) rfl fun a hf => oR hf (rL hw hf rfl ty_9 1 rfl rfl) rfl fun a hf => oR hf (r_build hf bd_32 (vs := [Value.int .i64 a0.kind_, Value.string a0.path_, Value.bool a0.has_, Value.string a0.value_]) rfl ⟨rfl, rfl, rfl, rfl, trivial⟩ (by decide) (out := [Value.int .i64 a0.kind_, Value.string a0.path_, Value.bool a0.has_, Value.string a0.value_, Value.int .i64 0, Value.slice none 0 0]) rfl) rfl fun a hf => ?_
 obtain ⟨b7, w, hrun8, hw⟩ := e_alloc (P := P) (a := a) hw ty_32
 replace hw : Ok E I (.blk b7 (.cells ⟨[.int .i64 0, .string (⟨#[]⟩ : ByteArray), .bool false, .string (⟨#[]⟩ : ByteArray), .int .i64 0, .slice none 0 0]⟩ 32 (0, 0)) :: .blk b4 (.cells ⟨[.int .i64 0, .string (⟨#[]⟩ : ByteArray), .bool false, .string (⟨#[]⟩ : ByteArray), .int .i64 0, .slice none 0 0]⟩ 32 (0, 0)) :: .blk b1 (.cells ⟨.int .i64 a0.kind_ :: .string a0.path_ :: .bool a0.has_ :: .string a0.value_ :: arrC .i64 a0.kids_⟩ 55 (0, 0)) :: .row a1v 9 1 a1m a1cs :: F) w := hw
 refine o_eff hf (hrun8 ..) rfl fun a hf => ?_
 obtain ⟨w, hrun10, hw⟩ := e_store (P := P) hw hf (x := .tmp 5) (y := .tmp 16) rfl rfl ty_32 0 rfl (vs := [Value.int .i64 a0.kind_, Value.string a0.path_, Value.bool a0.has_, Value.string a0.value_, Value.int .i64 0, Value.slice none 0 0]) rfl rfl (oC rfl (oC rfl (oC rfl (oC rfl (oC rfl (oC rfl ones_nil)))))) (by simp [arrC_len]) (cs' := [Value.int .i64 a0.kind_, Value.string a0.path_, Value.bool a0.has_, Value.string a0.value_, Value.int .i64 0, Value.slice none 0 0]) rfl
 replace hw : Ok E I (.blk b7 (.cells ⟨[.int .i64 a0.kind_, .string a0.path_, .bool a0.has_, .string a0.value_, .int .i64 0, .slice none 0 0]⟩ 32 (0, 0)) :: .blk b4 (.cells ⟨[.int .i64 0, .string (⟨#[]⟩ : ByteArray), .bool false, .string (⟨#[]⟩ : ByteArray), .int .i64 0, .slice none 0 0]⟩ 32 (0, 0)) :: .blk b1 (.cells ⟨.int .i64 a0.kind_ :: .string a0.path_ :: .bool a0.has_ :: .string a0.value_ :: arrC .i64 a0.kids_⟩ 55 (0, 0)) :: .row a1v 9 1 a1m a1cs :: F) w := hw
 refine o_effU (hrun10 ..) <| oN <| ct <| wq <| wq <| wr <| oR hf (rF hf rfl fd_55_4) rfl fun a hf => oR hf (r_loadA hw hf rfl ty_53 2 rfl (vs := (arrC .i64 a0.kids_)) (take_all (by simp [arrC_len])) (by simp [arrC_len])) rfl fun a hf => om hf rfl rfl fun a hf => oN <| ct ?_
 replace hw := hw.nilrow 9 1
 have hRR99 : RowR ekS I [] [] := RowR.nil
 obtain ⟨out315, hp, hq316⟩ := bS hp
 refine c_cutX (fun a w => ∃ y309 : List ByteArray, ∃ y314 : Int, ∃ yv310 : Value, ∃ m311 : Nat, ∃ cs312 : List Value, (y309, y314) = out315 ∧ Ok E I (.row yv310 9 1 m311 cs312 :: .blk b7 (.cells ⟨[.int .i64 a0.kind_, .string a0.path_, .bool a0.has_, .string a0.value_, .int .i64 y314, yv310]⟩ 32 (0, 0)) :: .blk b4 (.cells ⟨[.int .i64 0, .string (⟨#[]⟩ : ByteArray), .bool false, .string (⟨#[]⟩ : ByteArray), .int .i64 0, .slice none 0 0]⟩ 32 (0, 0)) :: .blk b1 (.cells ⟨.int .i64 a0.kind_ :: .string a0.path_ :: .bool a0.has_ :: .string a0.value_ :: arrC .i64 a0.kids_⟩ 55 (0, 0)) :: .row a1v 9 1 a1m a1cs :: F) w ∧ Fr 42 ([(4, .pointer (some ⟨b4, 0, none⟩)), (5, .pointer (some ⟨b7, 0, none⟩))]) a ∧ RowR ekS I cs312 y309) ?_ ?_
 ·refine wp_block <| c_loop <| c_fuel (root_item_r1.l0 a0 a1) out315 (fun (y236, y241, y242) a w => ∃ yv237 : Value, ∃ m238 : Nat, ∃ cs239 : List Value, Ok E I (.row yv237 9 1 m238 cs239 :: .blk b7 (.cells ⟨[.int .i64 a0.kind_, .string a0.path_, .bool a0.has_, .string a0.value_, .int .i64 y241, yv237]⟩ 32 (0, 0)) :: .blk b4 (.cells ⟨[.int .i64 0, .string (⟨#[]⟩ : ByteArray), .bool false, .string (⟨#[]⟩ : ByteArray), .int .i64 0, .slice none 0 0]⟩ 32 (0, 0)) :: .blk b1 (.cells ⟨.int .i64 a0.kind_ :: .string a0.path_ :: .bool a0.has_ :: .string a0.value_ :: arrC .i64 a0.kids_⟩ 55 (0, 0)) :: .row a1v 9 1 a1m a1cs :: F) w ∧ Fr 42 ([(1, a1v), (4, .pointer (some ⟨b4, 0, none⟩)), (5, .pointer (some ⟨b7, 0, none⟩)), (18, Value.agg ⟨arrC .i64 a0.kids_⟩), (19, .int .i64 y242)]) a ∧ RowR ekS I cs239 y236) (fun _ => rfl) ?_ BIG (([] : List ByteArray), 0, 0) _ _ ⟨(.slice none 0 0), 0, [], hw, hf.to ⟨rfl, rfl, rfl, rfl, rfl, trivial⟩, hRR99⟩ hp
  intro k st a w hI hp ih
  obtain ⟨y236, y241, y242⟩ := st
  obtain ⟨yv237, m238, cs239, hw, hf, hRR240⟩ := hI
  rw [root_item_r1.l0] at hp
  refine wq <| wr <| oR hf (iC hf rfl rfl rfl) rfl fun a hf => oN <| ct <| wq <| cC hf rfl (fun hb318 => ?_) (fun hb318 => ?_)
  ·replace hp := cond_t hb318 hp
   refine wp_skip <| ct ?_
   obtain ⟨out363, hp, hq364⟩ := bS hp
   refine c_cut (fun a w => ∃ y357 : List ByteArray, ∃ y362 : Int, ∃ yv358 : Value, ∃ m359 : Nat, ∃ cs360 : List Value, (y357, y362) = out363 ∧ Ok E I (.row yv358 9 1 m359 cs360 :: .blk b7 (.cells ⟨[.int .i64 a0.kind_, .string a0.path_, .bool a0.has_, .string a0.value_, .int .i64 y362, yv358]⟩ 32 (0, 0)) :: .blk b4 (.cells ⟨[.int .i64 0, .string (⟨#[]⟩ : ByteArray), .bool false, .string (⟨#[]⟩ : ByteArray), .int .i64 0, .slice none 0 0]⟩ 32 (0, 0)) :: .blk b1 (.cells ⟨.int .i64 a0.kind_ :: .string a0.path_ :: .bool a0.has_ :: .string a0.value_ :: arrC .i64 a0.kids_⟩ 55 (0, 0)) :: .row a1v 9 1 a1m a1cs :: F) w ∧ Fr 42 ([(1, a1v), (4, .pointer (some ⟨b4, 0, none⟩)), (5, .pointer (some ⟨b7, 0, none⟩)), (18, Value.agg ⟨arrC .i64 a0.kids_⟩), (19, .int .i64 y242)]) a ∧ RowR ekS I cs360 y357) ?_ ?_
   ·refine wp_block <| wq <| wr <| om hf rfl rfl fun a hf => ?_
    obtain ⟨hg365, hp⟩ := gS hp
    refine oR hf (r_indexArr hf el_53 ty_3 rfl rfl hg365) rfl fun a hf => oa hf rfl rfl fun a hf => oa hf rfl rfl fun a hf => oN <| ct <| wq <| wr <| om hf rfl rfl fun a hf => oR hf (iC hf rfl rfl rfl) rfl fun a hf => oN <| ct <| cC hf rfl (fun hb366 => ?_) (fun hb366 => ?_)
    ·replace hp := cond_t hb366 hp
     refine wq <| c_drawn mix [6] (.rd 0 (.rd 1 (.rd 2 (.rd 3 (.rd 4 (.rd 5 (.ef 6 .done))))))) (by kernel_rfl) hw (fun w => Ok E I (.row yv237 9 1 m238 cs239 :: .blk b7 (.cells ⟨[.int .i64 a0.kind_, .string a0.path_, .bool a0.has_, .string a0.value_, .int .i64 y241, yv237]⟩ 32 (0, 0)) :: .blk b4 (.cells ⟨[.int .i64 0, .string (⟨#[]⟩ : ByteArray), .bool false, .string (⟨#[]⟩ : ByteArray), .int .i64 0, .slice none 0 0]⟩ 32 (0, 0)) :: .blk b1 (.cells ⟨.int .i64 a0.kind_ :: .string a0.path_ :: .bool a0.has_ :: .string a0.value_ :: arrC .i64 a0.kids_⟩ 55 (0, 0)) :: .row a1v 9 1 a1m a1cs :: F) w) (fun w hw => ⟨hw.sub (scc (scc (scc (scc (scc sr))))), ?_⟩)
     refine tR rfl hf (fun w hw => rF hf rfl fd_32_4) rfl fun a hf => tR rfl hf (fun w hw => rL hw hf rfl ty_3 1 rfl rfl) rfl fun a hf => tm rfl hf rfl rfl fun a hf => ?_
     obtain ⟨hg368, hp⟩ := gS hp
     refine tR rfl hf (fun w hw => r_shl hf rfl rfl hg368) rfl fun a hf => tR rfl hf (fun w hw => r_or hf rfl rfl) rfl fun a hf => tR rfl hf (fun w hw => rF hf rfl fd_32_4) rfl fun a hf => t_ef rfl ?_
     obtain ⟨w, hrun369, hw⟩ := e_store (P := P) hw hf (x := .tmp 30) (y := .tmp 29) rfl rfl ty_3 1 rfl (vs := [Value.int .i64 (bor .i64 y241 (shl .i64 1 y242))]) (oE rfl) rfl (oC rfl ones_nil) (by simp [arrC_len]) (cs' := [Value.int .i64 a0.kind_, Value.string a0.path_, Value.bool a0.has_, Value.string a0.value_, Value.int .i64 (bor .i64 y241 (shl .i64 1 y242)), yv237]) rfl
     replace hw : Ok E I (.row yv237 9 1 m238 cs239 :: .blk b7 (.cells ⟨[.int .i64 a0.kind_, .string a0.path_, .bool a0.has_, .string a0.value_, .int .i64 (bor .i64 y241 (shl .i64 1 y242)), yv237]⟩ 32 (0, 0)) :: .blk b4 (.cells ⟨[.int .i64 0, .string (⟨#[]⟩ : ByteArray), .bool false, .string (⟨#[]⟩ : ByteArray), .int .i64 0, .slice none 0 0]⟩ 32 (0, 0)) :: .blk b1 (.cells ⟨.int .i64 a0.kind_ :: .string a0.path_ :: .bool a0.has_ :: .string a0.value_ :: arrC .i64 a0.kids_⟩ 55 (0, 0)) :: .row a1v 9 1 a1m a1cs :: F) w := hw
     refine t_effU (hrun369 ..) ⟨.inl rfl, ?_⟩
     refine t_done <| ct <| c_drawn mix [9] (.rd 0 (.rd 1 (.rd 2 (.rd 3 (.rd 4 (.rd 5 (.ef 6 (.ef 7 (.rd 8 (.ef 9 .done)))))))))) (by kernel_rfl) hw (fun w => Ok E I (.blk b7 (.cells ⟨[.int .i64 a0.kind_, .string a0.path_, .bool a0.has_, .string a0.value_, .int .i64 (bor .i64 y241 (shl .i64 1 y242)), yv237]⟩ 32 (0, 0)) :: .blk b4 (.cells ⟨[.int .i64 0, .string (⟨#[]⟩ : ByteArray), .bool false, .string (⟨#[]⟩ : ByteArray), .int .i64 0, .slice none 0 0]⟩ 32 (0, 0)) :: .blk b1 (.cells ⟨.int .i64 a0.kind_ :: .string a0.path_ :: .bool a0.has_ :: .string a0.value_ :: arrC .i64 a0.kids_⟩ 55 (0, 0)) :: .row a1v 9 1 a1m a1cs :: F) w) (fun w hw => ⟨hw.sub (sc (scc (scc (scc (scc sr))))), ?_⟩)
     refine tR rfl hf (fun w hw => rF hf rfl fd_32_5) rfl fun a hf => tR rfl hf (fun w hw => rL hw hf rfl ty_28 0 rfl rfl) rfl fun a hf => tm rfl hf rfl rfl fun a hf => tm rfl hf rfl rfl fun a hf => ?_
     obtain ⟨hg371, hp⟩ := gS hp
     refine tR rfl hf (fun w hw => rI (K := ekS) hf el_28 rfl rfl (rR (K := ekS) hw (i := 3) rfl ha1) hg371) rfl fun a hf => tR rfl hf (fun w hw => r_loadH (K := ekS) hf rfl ty_9 (rR (K := ekS) hw (i := 3) rfl ha1) hg371 rfl (fun cs h => ekS_f0 h)) rfl fun a hf => t_ef rfl ?_
     obtain ⟨w, v372, hrun373, hw, hRR374⟩ := e_buildSlice (P := P) (K := ekS) (m := 1) hw hf (parts := [(0, .tmp 36)]) el_28 ty_9 rfl rfl rfl (ccs := [[Value.string (gt a1 (vg a0.kids_ y242))]]) rfl (xs := [gt a1 (vg a0.kids_ y242)]) ⟨rfl, trivial⟩ rfl
     obtain ⟨cs375, hcs⟩ : ∃ cs, cs = ([[Value.string (gt a1 (vg a0.kids_ y242))]] : List (List Value)).flatten := ⟨_, rfl⟩
     rw [← hcs] at hw hRR374; clear hcs
     refine t_eff hf (hrun373 ..) rfl fun a hf => ⟨.inr (hw.back (IH.le_refl _) (sc (sc (scc (scc (scc (scc sr))))))), ?_⟩
     refine t_ef rfl ?_
     obtain ⟨hg377, hp⟩ := gS hp
     obtain ⟨w, v378, m379, cs380, hrun382, hw, hRR381⟩ := e_append (P := P) (K := ekS) (ty := 28) hw hf (s := .tmp 32) (x := .tmp 37) el_28 ty_9 rfl (by decide) 1 rfl rfl rfl hRR240 (ys := [gt a1 (vg a0.kids_ y242)]) (rR (K := ekS) hw (i := 0) rfl hRR374) hg377
     replace hw : Ok E I (.row v372 9 1 1 cs375 :: .row v378 9 1 m379 cs380 :: .blk b7 (.cells ⟨[.int .i64 a0.kind_, .string a0.path_, .bool a0.has_, .string a0.value_, .int .i64 (bor .i64 y241 (shl .i64 1 y242)), yv237]⟩ 32 (0, 0)) :: .blk b4 (.cells ⟨[.int .i64 0, .string (⟨#[]⟩ : ByteArray), .bool false, .string (⟨#[]⟩ : ByteArray), .int .i64 0, .slice none 0 0]⟩ 32 (0, 0)) :: .blk b1 (.cells ⟨.int .i64 a0.kind_ :: .string a0.path_ :: .bool a0.has_ :: .string a0.value_ :: arrC .i64 a0.kids_⟩ 55 (0, 0)) :: .row a1v 9 1 a1m a1cs :: F) w := hw
     refine t_eff hf (hrun382 ..) rfl fun a hf => ⟨.inr (hw.back (IH.le_refl _) (sc (sc (scc (scc (scc (scc sr))))))), ?_⟩
     refine tR rfl hf (fun w hw => rF hf rfl fd_32_5) rfl fun a hf => t_ef rfl ?_
     obtain ⟨w, hrun383, hw⟩ := e_store (P := P) hw hf (x := .tmp 39) (y := .tmp 38) rfl rfl ty_28 2 rfl (vs := [v378]) (oE (row_one hw (i := 1) rfl)) rfl (oC (row_one hw (i := 1) rfl) ones_nil) (by simp [arrC_len]) (cs' := [Value.int .i64 a0.kind_, Value.string a0.path_, Value.bool a0.has_, Value.string a0.value_, Value.int .i64 (bor .i64 y241 (shl .i64 1 y242)), v378]) rfl
     replace hw : Ok E I (.row v372 9 1 1 cs375 :: .row v378 9 1 m379 cs380 :: .blk b7 (.cells ⟨[.int .i64 a0.kind_, .string a0.path_, .bool a0.has_, .string a0.value_, .int .i64 (bor .i64 y241 (shl .i64 1 y242)), v378]⟩ 32 (0, 0)) :: .blk b4 (.cells ⟨[.int .i64 0, .string (⟨#[]⟩ : ByteArray), .bool false, .string (⟨#[]⟩ : ByteArray), .int .i64 0, .slice none 0 0]⟩ 32 (0, 0)) :: .blk b1 (.cells ⟨.int .i64 a0.kind_ :: .string a0.path_ :: .bool a0.has_ :: .string a0.value_ :: arrC .i64 a0.kids_⟩ 55 (0, 0)) :: .row a1v 9 1 a1m a1cs :: F) w := hw
     refine t_effU (hrun383 ..) ⟨.inl rfl, ?_⟩
     refine t_done <| c_blockN <| ct ?_
     have ho := oI hp
     subst ho
     replace hw : Ok E I (.row v378 9 1 m379 cs380 :: .blk b7 (.cells ⟨[.int .i64 a0.kind_, .string a0.path_, .bool a0.has_, .string a0.value_, .int .i64 (bor .i64 y241 (shl .i64 1 y242)), v378]⟩ 32 (0, 0)) :: .blk b4 (.cells ⟨[.int .i64 0, .string (⟨#[]⟩ : ByteArray), .bool false, .string (⟨#[]⟩ : ByteArray), .int .i64 0, .slice none 0 0]⟩ 32 (0, 0)) :: .blk b1 (.cells ⟨.int .i64 a0.kind_ :: .string a0.path_ :: .bool a0.has_ :: .string a0.value_ :: arrC .i64 a0.kids_⟩ 55 (0, 0)) :: .row a1v 9 1 a1m a1cs :: F) w := hw.sub (sc (scc (scc (scc (scc (scc sr))))))
     exact ⟨(y236 ++ [gt a1 (vg a0.kids_ y242)]), (bor .i64 y241 (shl .i64 1 y242)), v378, m379, cs380, rfl, hw, hf.to ⟨rfl, rfl, rfl, rfl, rfl, trivial⟩, hRR381⟩
    ·replace hp := cond_f hb366 hp
     refine wp_skip <| c_blockN <| ct ?_
     have ho := oI hp
     subst ho
     exact ⟨y236, y241, yv237, m238, cs239, rfl, hw, hf.to ⟨rfl, rfl, rfl, rfl, rfl, trivial⟩, hRR240⟩
   ·intro a w hM
    obtain ⟨y357, y362, yv358, m359, cs360, rfl, hw, hf, hRR361⟩ := hM
    replace hp := hq364
    refine wr <| oR hf (r_add hf rfl rfl) rfl fun a hf => om hf rfl rfl fun a hf => oN <| ct ?_
    exact ih (y357, y362, w64 (y242 + 1)) _ _ ⟨yv358, m359, cs360, hw, hf.to ⟨rfl, rfl, rfl, rfl, rfl, trivial⟩, hRR361⟩ hp
  ·replace hp := cond_f hb318 hp
   refine wp_exit <| c_thenE <| c_thenE <| c_exit <| ct ?_
   have ho := oI hp
   subst ho
   exact ⟨y236, y241, yv237, m238, cs239, rfl, hw, hf.to ⟨rfl, rfl, trivial⟩, hRR240⟩
 ·intro a w hM
  obtain ⟨y309, y314, yv310, m311, cs312, rfl, hw, hf, hRR313⟩ := hM
  replace hp := hq316
  refine ct <| wq <| wr <| oR hf (r_loadA hw hf rfl ty_32 1 rfl (vs := [Value.int .i64 a0.kind_, Value.string a0.path_, Value.bool a0.has_, Value.string a0.value_, Value.int .i64 y314, yv310]) rfl rfl) rfl fun a hf => ?_
  obtain ⟨w, hrun385, hw⟩ := e_store (P := P) hw hf (x := .tmp 4) (y := .tmp 41) rfl rfl ty_32 2 rfl (vs := [Value.int .i64 a0.kind_, Value.string a0.path_, Value.bool a0.has_, Value.string a0.value_, Value.int .i64 y314, yv310]) rfl rfl (oC rfl (oC rfl (oC rfl (oC rfl (oC rfl (oC (row_one hw (i := 0) rfl) ones_nil)))))) (by simp [arrC_len]) (cs' := [Value.int .i64 a0.kind_, Value.string a0.path_, Value.bool a0.has_, Value.string a0.value_, Value.int .i64 y314, yv310]) rfl
  replace hw : Ok E I (.row yv310 9 1 m311 cs312 :: .blk b7 (.cells ⟨[.int .i64 a0.kind_, .string a0.path_, .bool a0.has_, .string a0.value_, .int .i64 y314, yv310]⟩ 32 (0, 0)) :: .blk b4 (.cells ⟨[.int .i64 a0.kind_, .string a0.path_, .bool a0.has_, .string a0.value_, .int .i64 y314, yv310]⟩ 32 (0, 0)) :: .blk b1 (.cells ⟨.int .i64 a0.kind_ :: .string a0.path_ :: .bool a0.has_ :: .string a0.value_ :: arrC .i64 a0.kids_⟩ 55 (0, 0)) :: .row a1v 9 1 a1m a1cs :: F) w := hw
  refine o_effU (hrun385 ..) <| oN <| ct <| wp_ret ?_
  have hw : Ok E I (.row yv310 9 1 m311 cs312 :: .blk b7 (.cells ⟨[Value.int .i64 a0.kind_, Value.string a0.path_, Value.bool a0.has_, Value.string a0.value_, Value.int .i64 y314, yv310]⟩ 32 (0, 0)) :: .blk b4 (.cells ⟨[Value.int .i64 a0.kind_, Value.string a0.path_, Value.bool a0.has_, Value.string a0.value_, Value.int .i64 y314, yv310]⟩ 32 (0, 0)) :: .blk b1 (.cells ⟨Value.int .i64 a0.kind_ :: Value.string a0.path_ :: Value.bool a0.has_ :: Value.string a0.value_ :: arrC .i64 a0.kids_⟩ 55 (0, 0)) :: .row a1v 9 1 a1m a1cs :: F) w := hw.front (i := 0) rfl
  obtain ⟨I389, hle390, hw, hR391⟩ := row_freeze (K := ekS) hw hRR313
  replace hG := hG.mono hle390
  replace ha1 := ha1.mono hle390
  replace hw : Ok E I389 (.blk b4 (.cells ⟨[.int .i64 a0.kind_, .string a0.path_, .bool a0.has_, .string a0.value_, .int .i64 y314, yv310]⟩ 32 (0, 0)) :: .row a1v 9 1 a1m a1cs :: F) w := hw.sub (sc (scc (sc (scc sr))))
  have ho := oI hp
  subst ho
  exact b_retC hw hf Go.Proofs.Tryd.results42 ty_32 rfl 0 rfl (vs := [Value.int .i64 a0.kind_, Value.string a0.path_, Value.bool a0.has_, Value.string a0.value_, Value.int .i64 y314, yv310]) rfl rfl ⟨_, rfl, ⟨I389, yv310, rfl, hle390, hw.tail, hR391⟩⟩

theorem math_bits_OnesCount64_ok {E : World} {I : IH} {F : List Atom} {w : World} {a0 : Int} {res0 : Int} (hw : Ok E I (F) w) (hG : Gl I) (hp : math_bits_OnesCount64.f a0 = some res0) :
  Calls P 97 ⟨[Value.int .u64 a0]⟩ w fun e w' => ∃ v, e = .returned v ∧ v = Value.int .i64 res0 ∧ Ok E I (F) w' := by
 refine c_enter Go.Proofs.Tryd.func97 rfl Go.Proofs.Tryd.ntmps97 rfl fun a hf => ?_
 replace hf : Fr 35 [(0, .int .u64 a0)] a := hf
 unfold math_bits_OnesCount64.f at hp
 refine wq <| wr <| oa hf rfl rfl fun a hf => oN <| ct <| wq <| wr <| om hf rfl rfl fun a hf => oR hf (r_shr hf rfl rfl (by decide)) rfl fun a hf => oR hf (r_and hf rfl rfl) rfl fun a hf => om hf rfl rfl fun a hf => oR hf (r_and hf rfl rfl) rfl fun a hf => oR hf (r_add hf rfl rfl) rfl fun a hf => oa hf rfl rfl fun a hf => oN <| ct ?_
 refine wq <| wr <| om hf rfl rfl fun a hf => oR hf (r_shr hf rfl rfl (by decide)) rfl fun a hf => oR hf (r_and hf rfl rfl) rfl fun a hf => om hf rfl rfl fun a hf => oR hf (r_and hf rfl rfl) rfl fun a hf => oR hf (r_add hf rfl rfl) rfl fun a hf => oa hf rfl rfl fun a hf => oN <| ct <| wq <| wr <| om hf rfl rfl fun a hf => oR hf (r_shr hf rfl rfl (by decide)) rfl fun a hf => om hf rfl rfl fun a hf => ?_
 refine oR hf (r_add hf rfl rfl) rfl fun a hf => oR hf (r_and hf rfl rfl) rfl fun a hf => oa hf rfl rfl fun a hf => oN <| ct <| wq <| wr <| om hf rfl rfl fun a hf => om hf rfl rfl fun a hf => oR hf (r_shr hf rfl rfl (by decide)) rfl fun a hf => oR hf (r_add hf rfl rfl) rfl fun a hf => oa hf rfl rfl fun a hf => oN <| ct <| wq <| wr ?_
 refine om hf rfl rfl fun a hf => om hf rfl rfl fun a hf => oR hf (r_shr hf rfl rfl (by decide)) rfl fun a hf => oR hf (r_add hf rfl rfl) rfl fun a hf => oa hf rfl rfl fun a hf => oN <| ct <| wq <| wr <| om hf rfl rfl fun a hf => om hf rfl rfl fun a hf => oR hf (r_shr hf rfl rfl (by decide)) rfl fun a hf => oR hf (r_add hf rfl rfl) rfl fun a hf => oa hf rfl rfl fun a hf => oN <| ct ?_
 refine wq <| wr <| om hf rfl rfl fun a hf => oR hf (r_convI hf und_111 und_3 rfl) rfl fun a hf => oR hf (r_and hf rfl rfl) rfl fun a hf => oa hf rfl rfl fun a hf => oN <| ct <| wp_ret ?_
 have ho := oI hp
 subst ho
 exact b_ret1 hf Go.Proofs.Tryd.results97 rfl ⟨_, rfl, ⟨rfl, hw⟩⟩

theorem math_bits_OnesCount_ok {E : World} {I : IH} {F : List Atom} {w : World} {a0 : Int} {res0 : Int} (hw : Ok E I (F) w) (hG : Gl I) (hp : math_bits_OnesCount.f a0 = some res0) :
  Calls P 74 ⟨[Value.int .u64 a0]⟩ w fun e w' => ∃ v, e = .returned v ∧ v = Value.int .i64 res0 ∧ Ok E I (F) w' := by
 refine c_enter Go.Proofs.Tryd.func74 rfl Go.Proofs.Tryd.ntmps74 rfl fun a hf => ?_
 replace hf : Fr 8 [(0, .int .u64 a0)] a := hf
 unfold math_bits_OnesCount.f at hp
 refine wq <| wr <| oa hf rfl rfl fun a hf => oN <| ct <| wq <| wp_cond_false (hf.ev rfl) <| wp_skip <| ct <| wq <| wr <| om hf rfl rfl fun a hf => ?_
 obtain ⟨y1, hy2, hp⟩ := bS hp
 have hc4 := math_bits_OnesCount64_ok hw hG hy2
 refine o_call hf cb_97 rfl rfl hc4 (fun v6 w a hK5 hf => ?_)
 obtain ⟨rfl, hw⟩ := hK5
 refine oa hf rfl rfl fun a hf => oN <| ct <| wp_ret ?_
 have ho := oI hp
 subst ho
 exact b_ret1 hf Go.Proofs.Tryd.results74 rfl ⟨_, rfl, ⟨rfl, hw⟩⟩

theorem node_hashes_c1_ok {E : World} {I : IH} {F : List Atom} {w : World} {a0 : ByteArray} {res0 : Bool} (hw : Ok E I (F) w) (hG : Gl I) (hp : node_hashes_c1.f a0 = some res0) :
  Calls P 76 ⟨[Value.string a0]⟩ w fun e w' => ∃ v, e = .returned v ∧ v = Value.bool res0 ∧ Ok E I (F) w' := by
 refine c_enter Go.Proofs.Tryd.func76 rfl Go.Proofs.Tryd.ntmps76 rfl fun a hf => ?_
 replace hf : Fr 6 [(0, .string a0)] a := hf
 unfold node_hashes_c1.f at hp
 refine wq <| wr <| oa hf rfl rfl fun a hf => oN <| ct <| wq <| wr <| om hf rfl rfl fun a hf => oR hf (r_lenS hf und_9 rfl) rfl fun a hf => oR hf (iC hf rfl rfl rfl) rfl fun a hf => oa hf rfl rfl fun a hf => oN <| ct <| wp_ret ?_
 have ho := oI hp
 subst ho
 exact b_ret1 hf Go.Proofs.Tryd.results76 rfl ⟨_, rfl, ⟨rfl, hw⟩⟩

theorem slices_IndexFunc_string_node_hashes_c1_ok {E : World} {I : IH} {F : List Atom} {w : World} {a0 : List ByteArray} {a0v1 : Value} {res0 : Int} (hw : Ok E I (F) w) (hG : Gl I) (hR2 : RS ekS I a0v1 a0) (hp : slices_IndexFunc_string_node_hashes_c1.f a0 = some res0) :
  Calls P 98 ⟨[a0v1, Value.func (.func 76) #[] ⟨[]⟩]⟩ w fun e w' => ∃ v, e = .returned v ∧ v = Value.int .i64 res0 ∧ Ok E I (F) w' := by
 refine c_enter Go.Proofs.Tryd.func98 rfl Go.Proofs.Tryd.ntmps98 rfl fun a hf => ?_
 replace hf : Fr 19 [(0, a0v1), (1, Value.func (.func 76) #[] ⟨[]⟩)] a := hf
 unfold slices_IndexFunc_string_node_hashes_c1.f at hp
 refine wq <| wr <| oa hf rfl rfl fun a hf => oN <| ct <| wq <| wq <| wr <| om hf rfl rfl fun a hf => oR hf (r_lenL (K := ekS) hf el_28 rfl (hR2.rd hw)) rfl fun a hf => om hf rfl rfl fun a hf => oN <| ct ?_
 obtain ⟨out28, hp, hq29⟩ := bS hp
 refine c_cutX (fun a w => (.inl ()) = out28 ∧ Ok E I (F) w ∧ Fr 19 ([]) a) ?_ ?_
 ·refine wp_block <| c_loop <| c_fuel (slices_IndexFunc_string_node_hashes_c1.l0 a0) out28 (fun (y18 : Int) a w => Ok E I (F) w ∧ Fr 19 ([(0, a0v1), (1, Value.func (.func 76) #[] ⟨[]⟩), (7, .int .i64 (a0.length : Int)), (8, .int .i64 y18)]) a) (fun _ => rfl) ?_ BIG 0 _ _ ⟨hw, hf.to ⟨rfl, rfl, rfl, rfl, trivial⟩⟩ hp
  intro k y18 a w hI hp ih
  obtain ⟨hw, hf⟩ := hI
  rw [slices_IndexFunc_string_node_hashes_c1.l0] at hp
  refine wq <| wr <| oR hf (iC hf rfl rfl rfl) rfl fun a hf => oN <| ct <| wq <| cC hf rfl (fun hb31 => ?_) (fun hb31 => ?_)
  ·replace hp := cond_t hb31 hp
   refine wp_skip <| ct <| wq <| wp_block <| wq <| wr <| om hf rfl rfl fun a hf => oa hf rfl rfl fun a hf => oN <| ct <| wq <| wr <| om hf rfl rfl fun a hf => om hf rfl rfl fun a hf => om hf rfl rfl fun a hf => ?_
   obtain ⟨hg32, hp⟩ := gS hp
   refine oR hf (rI (K := ekS) hf el_28 rfl rfl (hR2.rd hw) hg32) rfl fun a hf => oR hf (r_loadH (K := ekS) hf rfl ty_9 (hR2.rd hw) hg32 rfl (fun cs h => ekS_f0 h)) rfl fun a hf => ?_
   obtain ⟨y33, hy34, hp⟩ := bS hp
   have hc36 := node_hashes_c1_ok hw hG hy34
   refine o_callV hf rfl cb_76 rfl rfl hc36 (fun v38 w a hK37 hf => ?_)
   obtain ⟨rfl, hw⟩ := hK37
   refine oN <| ct <| cC hf rfl (fun hb39 => ?_) (fun hb39 => ?_)
   ·replace hp := cond_t hb39 hp
    refine wq <| wr <| om hf rfl rfl fun a hf => oa hf rfl rfl fun a hf => oN <| ct <| wp_ret <| c_blockR <| c_thenR <| c_thenR <| c_blockR <| c_thenR ?_
    have ho := oI hp
    subst ho
    replace hp := hq29
    refine c_thenR ?_
    have ho := oI hp
    subst ho
    exact b_ret1 hf Go.Proofs.Tryd.results98 rfl ⟨_, rfl, ⟨rfl, hw⟩⟩
   ·replace hp := cond_f hb39 hp
    refine wp_skip <| c_blockN <| ct <| wr <| oR hf (r_add hf rfl rfl) rfl fun a hf => om hf rfl rfl fun a hf => oN <| ct ?_
    exact ih (w64 (y18 + 1)) _ _ ⟨hw, hf.to ⟨rfl, rfl, rfl, rfl, trivial⟩⟩ hp
  ·replace hp := cond_f hb31 hp
   refine wp_exit <| c_thenE <| c_thenE <| c_exit <| ct ?_
   have ho := oI hp
   subst ho
   exact ⟨rfl, hw, hf.to trivial⟩
 ·intro a w hM
  obtain ⟨rfl, hw, hf⟩ := hM
  replace hp := hq29
  refine ct <| wq <| wr <| oa hf rfl rfl fun a hf => oN <| ct <| wp_ret ?_
  have ho := oI hp
  subst ho
  exact b_ret1 hf Go.Proofs.Tryd.results98 rfl ⟨_, rfl, ⟨rfl, hw⟩⟩

theorem slices_ContainsFunc_string_node_hashes_c1_ok {E : World} {I : IH} {F : List Atom} {w : World} {a0 : List ByteArray} {a0v14 : Value} {res0 : Bool} (hw : Ok E I (F) w) (hG : Gl I) (hR15 : RS ekS I a0v14 a0) (hp : slices_ContainsFunc_string_node_hashes_c1.f a0 = some res0) :
  Calls P 75 ⟨[a0v14, Value.func (.func 76) #[] ⟨[]⟩]⟩ w fun e w' => ∃ v, e = .returned v ∧ v = Value.bool res0 ∧ Ok E I (F) w' := by
 refine c_enter Go.Proofs.Tryd.func75 rfl Go.Proofs.Tryd.ntmps75 rfl fun a hf => ?_
 replace hf : Fr 9 [(0, a0v14), (1, Value.func (.func 76) #[] ⟨[]⟩)] a := hf
 unfold slices_ContainsFunc_string_node_hashes_c1.f at hp
 refine wq <| wr <| oa hf rfl rfl fun a hf => oN <| ct <| wq <| wr <| om hf rfl rfl fun a hf => om hf rfl rfl fun a hf => ?_
 obtain ⟨y42, hy43, hp⟩ := bS hp
 have hc45 := slices_IndexFunc_string_node_hashes_c1_ok hw hG hR15 hy43
 refine o_call hf cb_98 rfl rfl hc45 (fun v47 w a hK46 hf => ?_)
 obtain ⟨rfl, hw⟩ := hK46
 refine oR hf (iC hf rfl rfl rfl) rfl fun a hf => oa hf rfl rfl fun a hf => oN <| ct <| wp_ret ?_
 have ho := oI hp
 subst ho
 exact b_ret1 hf Go.Proofs.Tryd.results75 rfl ⟨_, rfl, ⟨rfl, hw⟩⟩

theorem node_hashes_ok {E : World} {I : IH} {F : List Atom} {w : World} {a0 : Item} {a0v6 : Value} {res0 : Bool} (hw : Ok E I (F) w) (hG : Gl I) (hR7 : RS ekS I a0v6 a0.hashes_) (hp : node_hashes.f a0 = some res0) :
  Calls P 54 ⟨[Value.agg ⟨[Value.int .i64 a0.kind_, Value.string a0.path_, Value.bool a0.has_, Value.string a0.value_, Value.int .i64 a0.mask_, a0v6]⟩]⟩ w fun e w' => ∃ v, e = .returned v ∧ v = Value.bool res0 ∧ Ok E I (F) w' := by
 refine c_enter Go.Proofs.Tryd.func54 rfl Go.Proofs.Tryd.ntmps54 rfl fun a hf => ?_
 replace hf : Fr 17 [(0, Value.agg ⟨[.int .i64 a0.kind_, .string a0.path_, .bool a0.has_, .string a0.value_, .int .i64 a0.mask_, a0v6]⟩)] a := hf
 unfold node_hashes.f at hp
 refine wq <| wr ?_
 obtain ⟨b1, w, hrun2, hw⟩ := e_box (P := P) hw hf (e := 32) (x := .tmp 0) rfl (cs := [Value.int .i64 a0.kind_, Value.string a0.path_, Value.bool a0.has_, Value.string a0.value_, Value.int .i64 a0.mask_, a0v6]) rfl
 refine o_eff hf (hrun2 ..) rfl fun a hf => oa hf rfl rfl fun a hf => oN <| ct ?_
 obtain ⟨out69, hp, hq70⟩ := bS hp
 refine c_cut (fun a w => ∃ y68 : Bool, y68 = out69 ∧ Ok E I (.blk b1 (.cells ⟨[.int .i64 a0.kind_, .string a0.path_, .bool a0.has_, .string a0.value_, .int .i64 a0.mask_, a0v6]⟩ 32 (0, 0)) :: F) w ∧ Fr 17 ([(2, .bool y68)]) a) ?_ ?_
 ·refine c_drawn mix [] (.rd 0 (.rd 1 (.rd 2 (.rd 4 (.rd 5 (.rd 6 (.ef 3 (.rd 7 (.rd 8 (.rd 9 (.rd 10 (.ef 11 (.rd 12 (.rd 13 (.rd 14 .done))))))))))))))) (by kernel_rfl) hw (fun w => Ok E I (.blk b1 (.cells ⟨[.int .i64 a0.kind_, .string a0.path_, .bool a0.has_, .string a0.value_, .int .i64 a0.mask_, a0v6]⟩ 32 (0, 0)) :: F) w) (fun w hw => ⟨hw.sub (scc sr), ?_⟩)
  refine tR rfl hf (fun w hw => rF hf rfl fd_32_4) rfl fun a hf => tR rfl hf (fun w hw => rL hw hf rfl ty_3 0 rfl rfl) rfl fun a hf => tR rfl hf (fun w hw => r_convI hf und_3 und_56 rfl) rfl fun a hf => tR rfl hf (fun w hw => rF hf rfl fd_32_5) rfl fun a hf => tR rfl hf (fun w hw => rL hw hf rfl ty_28 0 rfl rfl) rfl fun a hf => tR rfl hf (fun w hw => r_lenL (K := ekS) hf el_28 rfl (hR7.rd hw)) rfl fun a hf => t_ef rfl ?_
  obtain ⟨y72, hy73, hp⟩ := bS hp
  have hc75 := math_bits_OnesCount_ok hw hG hy73
  refine t_call hf cb_74 rfl rfl hc75 (fun v77 w a hK76 hf => ?_)
  obtain ⟨rfl, hw⟩ := hK76
  refine ⟨.inr (hw.back (IH.le_refl _) (scc sr)), ?_⟩
  refine tR rfl hf (fun w hw => iC hf rfl rfl rfl) rfl fun a hf => tm rfl hf rfl rfl fun a hf => g_split hf (g := 11) rfl (fun hb78 hf => ?_) (fun hb78 hf => ?_)
  ·replace hp := cond_t hb78 hp
   refine tG rfl rfl hf rfl (fun w hw => rF hf rfl fd_32_5) rfl fun a hf => tG rfl rfl hf rfl (fun w hw => rL hw hf rfl ty_28 0 rfl rfl) rfl fun a hf => t_ef rfl ?_
   obtain ⟨y79, hy80, hp⟩ := bS hp
   have hc82 := slices_ContainsFunc_string_node_hashes_c1_ok hw hG hR7 hy80
   refine t_callG rfl hf rfl cb_75 rfl rfl hc82 (fun v84 w a hK83 hf => ?_)
   obtain ⟨rfl, hw⟩ := hK83
   refine ⟨.inr (hw.back (IH.le_refl _) (scc sr)), ?_⟩
   refine tG rfl rfl hf rfl (fun w hw => r_not hf rfl) rfl fun a hf => tR rfl hf (fun w hw => pT hf rfl rfl) rfl fun a hf => tR rfl hf (fun w hw => r_assign hf rfl) rfl fun a hf => t_done <| ct ?_
   have ho := oI hp
   subst ho
   exact ⟨(!y79), rfl, hw, hf.to ⟨rfl, trivial⟩⟩
  ·replace hp := cond_f hb78 hp
   refine tS rfl rfl hf rfl rfl rfl fun a hf => tS rfl rfl hf rfl rfl rfl fun a hf => t_ef rfl <| t_skipE rfl hf rfl rfl rfl fun a hf => ⟨.inr (hw.back (IH.le_refl _) (scc sr)), ?_⟩
   refine tS rfl rfl hf rfl rfl rfl fun a hf => tR rfl hf (fun w hw => pF hf rfl rfl) rfl fun a hf => tR rfl hf (fun w hw => r_assign hf rfl) rfl fun a hf => t_done <| ct ?_
   have ho := oI hp
   subst ho
   exact ⟨false, rfl, hw, hf.to ⟨rfl, trivial⟩⟩
 ·intro a w hM
  obtain ⟨y68, rfl, hw, hf⟩ := hM
  replace hp := hq70
  refine wp_ret ?_
  replace hw : Ok E I (F) w := hw.sub (sc sr)
  have ho := oI hp
  subst ho
  exact b_ret1 hf Go.Proofs.Tryd.results54 rfl ⟨_, rfl, ⟨rfl, hw⟩⟩
end Go.Lf
