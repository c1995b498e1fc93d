import Derived.Test.YtckhmgglgbnaaaaGreatDoorZD
import Derived.Test.YtckhmgglgbnaaaaGreatDoorZF
import Derived.Test.YtckhmgglgbnaaaaGreatDoorJ
import Derived.Test.YtckhmgglgbnaaaaGreatDoorUB
import Derived.Test.YtckhmgglgbnaaaaGreatDoorZK12
import Derived.Test.YtckhmgglgbnaaaaGreatDoorZK15
import Derived.Test.YtckhmgglgbnaaaaGreatDoorZK18
import Derived.Test.YtckhmgglgbnaaaaGreatDoorZK19
set_option linter.unusedVariables false
set_option linter.unusedSimpArgs false
set_option maxHeartbeats 1000000
set_option maxRecDepth 20000
namespace Go.Lf
open Go Go.Proofs.Tryz
theorem trie_Same_ok {E : World} {I : IH} {F : List Atom} {w : World} {a0 : List Node} {a0v641 : Value} {a1 : List Node} {a1v643 : Value} {res0 : Bool} (hw : Ok E I (F) w) (hG : Gl I) (hR642 : RS ek_Node I a0v641 a0) (hR644 : RS ek_Node I a1v643 a1) (hp : trie_Same.f a0 a1 = some res0) :
  Calls P 120 ⟨[a0v641, a1v643]⟩ w fun e w' => ∃ v, e = .returned v ∧ v = Value.bool res0 ∧ Ok E I (F) w' := by
 refine c_enter func120 rfl ntmps120 rfl fun a hf => ?_
 replace hf : Fr 26 [(0, a0v641), (1, a1v643)] a := hf
 unfold trie_Same.f at hp
 refine wq <| wr <| oa hf rfl rfl fun a hf => oN <| ct <| wq <| wq <| wr <| om hf rfl rfl fun a hf => oR hf (r_lenL (K := ek_Node) hf el_27 rfl (hR642.rd hw)) rfl fun a hf => om hf rfl rfl fun a hf => oR hf (r_lenL (K := ek_Node) hf el_27 rfl (hR644.rd hw)) rfl fun a hf => oR hf (iC hf rfl rfl rfl) rfl fun a hf => oN <| ct <| cC hf rfl (fun hb1 => ?_) (fun hb1 => ?_)
 ·replace hp := cond_t hb1 hp
  refine wq <| wr <| oa hf rfl rfl fun a hf => oN <| ct <| wp_ret <| c_thenR ?_
  have ho := oI hp
  subst ho
  exact b_ret1 hf results120 rfl ⟨_, rfl, ⟨rfl, hw⟩⟩
 ·replace hp := cond_f hb1 hp
  refine wp_skip <| ct <| wq <| wq <| wr <| om hf rfl rfl fun a hf => oR hf (r_lenL (K := ek_Node) hf el_27 rfl (hR642.rd hw)) rfl fun a hf => om hf rfl rfl fun a hf => oN <| ct ?_
  obtain ⟨out19, hp, hq20⟩ := bS hp
  refine c_cutX (fun a w => (.inl ()) = out19 ∧ Ok E I (F) w ∧ Fr 26 ([]) a) ?_ ?_
  ·refine wp_block <| c_loop <| c_fuel (trie_Same.l0 a0 a1) out19 (fun (y13 : Int) a w => Ok E I (F) w ∧ Fr 26 ([(0, a0v641), (1, a1v643), (12, .int .i64 (a0.length : Int)), (13, .int .i64 y13)]) a) (fun _ => rfl) ?_ BIG 0 _ _ ⟨hw, hf.to ⟨rfl, rfl, rfl, rfl, trivial⟩⟩ hp
   intro k y13 a w hI hp ih
   obtain ⟨hw, hf⟩ := hI
   rw [trie_Same.l0] at hp
   refine wq <| wr <| oR hf (iC hf rfl rfl rfl) rfl fun a hf => oN <| ct <| wq <| cC hf rfl (fun hb22 => ?_) (fun hb22 => ?_)
   ·replace hp := cond_t hb22 hp
    refine wp_skip <| ct <| wq <| wp_block <| wq <| wr <| om hf rfl rfl fun a hf => oa hf rfl rfl fun a hf => oN <| ct <| wq <| c_drawn mix [] (.rd 0 (.rd 1 (.rd 2 (.rd 3 (.rd 4 (.rd 5 (.rd 6 (.rd 7 (.rd 8 .done))))))))) (by kernel_rfl) hw (fun w => Ok E I (F) w) (fun w hw => ⟨hw.sub sr, ?_⟩)
    refine tm rfl hf rfl rfl fun a hf => tm rfl hf rfl rfl fun a hf => ?_
    obtain ⟨hg24, hp⟩ := gS hp
    refine tR rfl hf (fun w hw => rI (K := ek_Node) hf el_27 rfl rfl (hR642.rd hw) hg24) rfl fun a hf => tR rfl hf (fun w hw => r_loadHP (K := ek_Node) hf rfl ty_106 (hR642.rd hw) hg24 rfl (vs := (.int .i64 ((gt a0 y13).kind_) :: .string ((gt a0 y13).path_) :: .bool ((gt a0 y13).has_) :: .string ((gt a0 y13).value_) :: arrC .i64 ((gt a0 y13).kids_))) (fun cs h => Node_all h) (by simp [arrC_len])) rfl fun a hf => tm rfl hf rfl rfl fun a hf => tm rfl hf rfl rfl fun a hf => ?_
    obtain ⟨hg25, hp⟩ := gS hp
    refine tR rfl hf (fun w hw => rI (K := ek_Node) hf el_27 rfl rfl (hR644.rd hw) hg25) rfl fun a hf => tR rfl hf (fun w hw => r_loadHP (K := ek_Node) hf rfl ty_106 (hR644.rd hw) hg25 rfl (vs := (.int .i64 ((gt a1 y13).kind_) :: .string ((gt a1 y13).path_) :: .bool ((gt a1 y13).has_) :: .string ((gt a1 y13).value_) :: arrC .i64 ((gt a1 y13).kids_))) (fun cs h => Node_all h) (by simp [arrC_len])) rfl fun a hf => tR rfl hf (fun w hw => r_neq_Node hf (x := (gt a0 y13)) (y := (gt a1 y13)) rfl rfl) rfl fun a hf => t_done <| ct <| cC hf rfl (fun hb26 => ?_) (fun hb26 => ?_)
    ·replace hp := cond_t hb26 hp
     refine wq <| wr <| oa hf rfl rfl fun a hf => oN <| ct <| wp_ret <| c_blockR <| c_thenR <| c_thenR <| c_blockR <| c_thenR ?_
     have ho := oI hp
     subst ho
     replace hp := hq20
     refine c_thenR ?_
     have ho := oI hp
     subst ho
     exact b_ret1 hf results120 rfl ⟨_, rfl, ⟨rfl, hw⟩⟩
    ·replace hp := cond_f hb26 hp
     refine wp_skip <| c_blockN <| ct <| wr <| oR hf (r_add hf rfl rfl) rfl fun a hf => om hf rfl rfl fun a hf => oN <| ct ?_
     exact ih (w64 (y13 + 1)) _ _ ⟨hw, hf.to ⟨rfl, rfl, rfl, rfl, trivial⟩⟩ hp
   ·replace hp := cond_f hb22 hp
    refine wp_exit <| c_thenE <| c_thenE <| c_exit <| ct ?_
    have ho := oI hp
    subst ho
    exact ⟨rfl, hw, hf.to trivial⟩
  ·intro a w hM
   obtain ⟨rfl, hw, hf⟩ := hM
   replace hp := hq20
   refine ct <| wq <| wr <| oa hf rfl rfl fun a hf => oN <| ct <| wp_ret ?_
   have ho := oI hp
   subst ho
   exact b_ret1 hf results120 rfl ⟨_, rfl, ⟨rfl, hw⟩⟩

theorem trie_walked_ok {E : World} {I : IH} {F : List Atom} {w : World} {a0 : List Node} {a0v1 : Value} {res0 : trie_walker_T} {res1 : Bool} (hw : Ok E I (F) w) (hG : Gl I) (hR2 : RS ek_Node I a0v1 a0) (hp : trie_walked.f a0 = some (res0, res1)) :
  Calls P 82 ⟨[a0v1]⟩ w fun e w' => ∃ v, e = .returned v ∧ ∃ I2 : IH, ∃ rb215 : Nat, ∃ rvv209 : Value, ∃ rvv211 : Value, ∃ rvv213 : Value, v = Value.tuple ⟨[Value.pointer (some ⟨rb215, 0, none⟩), Value.bool res1]⟩ ∧ IH.le I I2 ∧ Ok E I2 (.blk rb215 (.cells ⟨[rvv209, Value.int .i64 res0.p_next_, rvv211, rvv213]⟩ 227 (0, 0)) :: F) w' ∧ RS ek_Node I2 rvv209 res0.p_t_ ∧ RS ek_Pair I2 rvv211 res0.p_l_ ∧ RS ekS I2 rvv213 res0.p_paths_ := by
 refine c_enter func82 rfl ntmps82 rfl fun a hf => ?_
 replace hf : Fr 34 [(0, a0v1)] a := hf
 unfold trie_walked.f at hp
 refine wq <| wr <| oa hf rfl rfl fun a hf => oa hf rfl rfl fun a hf => oN <| ct <| wq <| wr <| om hf rfl rfl fun a hf => oR hf (r_build hf bd_227 (vs := [a0v1]) rfl ⟨hR2.one, trivial⟩ (by decide) (out := [a0v1, .int .i64 0, .slice none 0 0, .slice none 0 0]) rfl) rfl fun a hf => ?_
 obtain ⟨b1, w, hrun2, hw⟩ := e_box (P := P) hw hf (e := 227) (x := .tmp 8) rfl (cs := [a0v1, Value.int .i64 0, Value.slice none 0 0, Value.slice none 0 0]) rfl
 refine o_eff hf (hrun2 ..) rfl fun a hf => oa hf rfl rfl fun a hf => oN <| ct <| wq ?_
 replace hw := hw.nilrow 74 2
 have hRR1069 : RowR ek_Pair I [] [] := RowR.nil
 replace hw := hw.nilrow 9 1
 have hRR1071 : RowR ekS I [] [] := RowR.nil
 obtain ⟨out1102, hp, hq1103⟩ := bS hp
 refine c_cut (fun a w => ∃ y1090 : List Pair, ∃ y1095 : List ByteArray, ∃ y1100 : Int, ∃ y1101 : Bool, ∃ yv1091 : Value, ∃ m1092 : Nat, ∃ cs1093 : List Value, ∃ yv1096 : Value, ∃ m1097 : Nat, ∃ cs1098 : List Value, (y1090, y1095, y1100, y1101) = out1102 ∧ Ok E I (.row yv1096 9 1 m1097 cs1098 :: .row yv1091 74 2 m1092 cs1093 :: .blk b1 (.cells ⟨[a0v1, .int .i64 y1100, yv1091, yv1096]⟩ 227 (0, 0)) :: F) w ∧ Fr 34 ([(0, a0v1), (4, .pointer (some ⟨b1, 0, none⟩)), (17, .bool y1101)]) a ∧ RowR ek_Pair I cs1093 y1090 ∧ RowR ekS I cs1098 y1095) ?_ ?_
 ·refine wr <| om hf rfl rfl fun a hf => oR hf (r_lenL (K := ek_Node) hf el_27 rfl (hR2.rd hw)) rfl fun a hf => oR hf (iC hf rfl rfl rfl) rfl fun a hf => om hf rfl rfl fun a hf => g_split hf (g := 13) rfl (fun hb1104 hf => ?_) (fun hb1104 hf => ?_)
  ·replace hp := cond_t hb1104 hp
   refine oW hf (g := 13) rfl rfl <| om hf rfl rfl fun a hf => oW hf (g := 13) rfl rfl ?_
   replace hw : Ok E I (.blk b1 (.cells ⟨[a0v1, .int .i64 0, (.slice none 0 0), (.slice none 0 0)]⟩ 227 (0, 0)) :: .row (.slice none 0 0) 74 2 0 [] :: .row (.slice none 0 0) 9 1 0 [] :: F) w := ((hw.front (i := 0) rfl).front (i := 1) rfl).front (i := 2) rfl
   obtain ⟨y1110, hy1109, hp⟩ := bS hp
   obtain ⟨y1105, y1106, y1107, y1108⟩ := y1110
   have hc1111 := trie_walker_walk_ok BIG hw hG hR2 hRR1069 hRR1071 hy1109
   refine o_call hf cb_118 rfl rfl hc1111 (fun v1121 w a hK1112 hf => ?_)
   obtain ⟨rv1113, rm1114, rcs1115, rv1117, rm1118, rcs1119, rfl, hw, hRR1116, hRR1120⟩ := hK1112
   refine oW hf (g := 13) rfl rfl <| oR hf (r_not hf rfl) rfl fun a hf => oR hf (pT hf rfl rfl) rfl fun a hf => oN <| ct ?_
   have ho := oI hp
   subst ho
   replace hw : Ok E I (.row rv1117 9 1 rm1118 rcs1119 :: .row rv1113 74 2 rm1114 rcs1115 :: .blk b1 (.cells ⟨[a0v1, .int .i64 y1106, rv1113, rv1117]⟩ 227 (0, 0)) :: F) w := ((hw.front (i := 0) rfl).front (i := 1) rfl).front (i := 2) rfl
   exact ⟨y1107, y1108, y1106, (!y1105), rv1113, rm1114, rcs1115, rv1117, rm1118, rcs1119, rfl, hw, hf.to ⟨rfl, rfl, rfl, trivial⟩, hRR1116, hRR1120⟩
  ·replace hp := cond_f hb1104 hp
   refine oQ hf (g := 13) rfl fun a hf => oQ hf (g := 13) rfl fun a hf => oQ hf (g := 13) rfl fun a hf => oR hf (pF hf rfl rfl) rfl fun a hf => oN <| ct ?_
   have ho := oI hp
   subst ho
   exact ⟨([] : List Pair), ([] : List ByteArray), 0, false, (Value.slice none 0 0), 0, [], (Value.slice none 0 0), 0, [], rfl, hw, hf.to ⟨rfl, rfl, rfl, trivial⟩, hRR1069, hRR1071⟩
 ·intro a w hM
  obtain ⟨y1090, y1095, y1100, y1101, yv1091, m1092, cs1093, yv1096, m1097, cs1098, rfl, hw, hf, hRR1094, hRR1099⟩ := hM
  replace hp := hq1103
  refine cC hf rfl (fun hb1122 => ?_) (fun hb1122 => ?_)
  ·replace hp := cond_t hb1122 hp
   refine wq <| wr <| om hf rfl rfl fun a hf => oa hf rfl rfl fun a hf => oa hf rfl rfl fun a hf => oN <| ct <| wp_ret <| c_thenR ?_
   have hw : Ok E I (.row yv1091 74 2 m1092 cs1093 :: .row yv1096 9 1 m1097 cs1098 :: .blk b1 (.cells ⟨[a0v1, Value.int .i64 y1100, yv1091, yv1096]⟩ 227 (0, 0)) :: F) w := hw.front (i := 1) rfl
   obtain ⟨I1123, hle1124, hw, hR1125⟩ := row_freeze (K := ek_Pair) hw hRR1094
   replace hG := hG.mono hle1124
   replace hR2 := hR2.mono hle1124
   replace hRR1099 := hRR1099.mono hle1124
   have hw : Ok E I1123 (.row yv1096 9 1 m1097 cs1098 :: .blk b1 (.cells ⟨[a0v1, Value.int .i64 y1100, yv1091, yv1096]⟩ 227 (0, 0)) :: F) w := hw.front (i := 0) rfl
   obtain ⟨I1126, hle1127, hw, hR1128⟩ := row_freeze (K := ekS) hw hRR1099
   replace hG := hG.mono hle1127
   replace hR2 := hR2.mono hle1127
   replace hR1125 := hR1125.mono hle1127
   have ho := oI hp
   simp only [Prod.mk.injEq] at ho
   obtain ⟨rfl, rfl⟩ := ho
   exact b_ret2 hf results82 rfl rfl ⟨_, rfl, ⟨I1126, b1, a0v1, yv1091, yv1096, rfl, (IH.le_trans hle1124 hle1127), hw, hR2, hR1125, hR1128⟩⟩
  ·replace hp := cond_f hb1122 hp
   refine wp_skip <| ct <| wq <| wr <| om hf rfl rfl fun a hf => oR hf (nC hf rfl) rfl fun a hf => oR hf (rF hf rfl fd_227_2) rfl fun a hf => oR hf (rL hw hf rfl ty_22 2 rfl rfl) rfl fun a hf => ?_
   have hw : Ok E I (.row yv1091 74 2 m1092 cs1093 :: .row yv1096 9 1 m1097 cs1098 :: .blk b1 (.cells ⟨[a0v1, Value.int .i64 y1100, yv1091, yv1096]⟩ 227 (0, 0)) :: F) w := hw.front (i := 1) rfl
   obtain ⟨I627, hle628, hw, hR629⟩ := row_freeze (K := ek_Pair) hw hRR1094
   replace hG := hG.mono hle628
   replace hR2 := hR2.mono hle628
   replace hRR1099 := hRR1099.mono hle628
   obtain ⟨y633, hy632, hp⟩ := bS hp
   obtain ⟨y630, y631⟩ := y633
   have hc634 := trie_Build_ok hw hG hR629 hy632
   refine o_call hf cb_119 rfl rfl hc634 (fun v638 w a hK635 hf => ?_)
   obtain ⟨I2_635, rvv636, rfl, hle639, hw, hR637⟩ := hK635
   replace hG := hG.mono hle639
   replace hR2 := hR2.mono hle639
   replace hR629 := hR629.mono hle639
   replace hRR1099 := hRR1099.mono hle639
   refine om hf rfl rfl fun a hf => oR hf (rE hf rfl rfl) rfl fun a hf => oR hf (rE hf rfl rfl) rfl fun a hf => oa hf rfl rfl fun a hf => oa hf rfl rfl fun a hf => oN <| ct ?_
   obtain ⟨out43, hp, hq44⟩ := bS hp
   refine c_cut (fun a w => ∃ y42 : Bool, y42 = out43 ∧ Ok E I2_635 (.row yv1096 9 1 m1097 cs1098 :: .blk b1 (.cells ⟨[a0v1, .int .i64 y1100, yv1091, yv1096]⟩ 227 (0, 0)) :: F) w ∧ Fr 34 ([(2, .pointer (some ⟨b1, 0, none⟩)), (3, .bool y42)]) a) ?_ ?_
   ·refine wr <| om hf rfl rfl fun a hf => om hf rfl rfl fun a hf => om hf rfl rfl fun a hf => g_split hf (g := 29) rfl (fun hb45 hf => ?_) (fun hb45 hf => ?_)
    ·replace hp := cond_t hb45 hp
     refine oW hf (g := 29) rfl rfl <| om hf rfl rfl fun a hf => oW hf (g := 29) rfl rfl <| om hf rfl rfl fun a hf => oW hf (g := 29) rfl rfl ?_
     obtain ⟨y46, hy47, hp⟩ := bS hp
     have hc49 := trie_Same_ok hw hG hR2 hR637 hy47
     refine o_call hf cb_120 rfl rfl hc49 (fun v51 w a hK50 hf => ?_)
     obtain ⟨rfl, hw⟩ := hK50
     refine oR hf (pT hf rfl rfl) rfl fun a hf => oa hf rfl rfl fun a hf => oa hf rfl rfl fun a hf => oN <| ct ?_
     have ho := oI hp
     subst ho
     exact ⟨y46, rfl, hw, hf.to ⟨rfl, rfl, trivial⟩⟩
    ·replace hp := cond_f hb45 hp
     refine oQ hf (g := 29) rfl fun a hf => oQ hf (g := 29) rfl fun a hf => oQ hf (g := 29) rfl fun a hf => oR hf (pF hf rfl rfl) rfl fun a hf => oa hf rfl rfl fun a hf => oa hf rfl rfl fun a hf => oN <| ct ?_
     have ho := oI hp
     subst ho
     exact ⟨false, rfl, hw, hf.to ⟨rfl, rfl, trivial⟩⟩
   ·intro a w hM
    obtain ⟨y42, rfl, hw, hf⟩ := hM
    replace hp := hq44
    refine wp_ret ?_
    have hw : Ok E I2_635 (.row yv1096 9 1 m1097 cs1098 :: .blk b1 (.cells ⟨[a0v1, Value.int .i64 y1100, yv1091, yv1096]⟩ 227 (0, 0)) :: F) w := hw.front (i := 0) rfl
    obtain ⟨I52, hle53, hw, hR54⟩ := row_freeze (K := ekS) hw hRR1099
    replace hG := hG.mono hle53
    replace hR2 := hR2.mono hle53
    replace hR629 := hR629.mono hle53
    have ho := oI hp
    simp only [Prod.mk.injEq] at ho
    obtain ⟨rfl, rfl⟩ := ho
    exact b_ret2 hf results82 rfl rfl ⟨_, rfl, ⟨I52, b1, a0v1, yv1091, yv1096, rfl, (IH.le_trans (IH.le_trans hle628 hle639) hle53), hw, hR2, hR629, hR54⟩⟩

theorem trie_Good_ok {E : World} {I : IH} {F : List Atom} {w : World} {a0 : List Node} {a0v1 : Value} {res0 : Bool} (hw : Ok E I (F) w) (hG : Gl I) (hR2 : RS ek_Node I a0v1 a0) (hp : trie_Good.f a0 = some res0) :
  Calls P 48 ⟨[a0v1]⟩ w fun e w' => ∃ v, e = .returned v ∧ v = Value.bool res0 ∧ Ok E I (F) w' := by
 refine c_enter func48 rfl ntmps48 rfl fun a hf => ?_
 replace hf : Fr 11 [(0, a0v1)] a := hf
 unfold trie_Good.f at hp
 refine wq <| wr <| oa hf rfl rfl fun a hf => oN <| ct <| wq <| wr <| om hf rfl rfl fun a hf => ?_
 obtain ⟨y58, hy57, hp⟩ := bS hp
 obtain ⟨y55, y56⟩ := y58
 have hc59 := trie_walked_ok hw hG hR2 hy57
 refine o_call hf cb_82 rfl rfl hc59 (fun v69 w a hK60 hf => ?_)
 obtain ⟨I2_60, rb67, rvv61, rvv63, rvv65, rfl, hle70, hw, hR62, hR64, hR66⟩ := hK60
 replace hG := hG.mono hle70
 replace hR2 := hR2.mono hle70
 refine om hf rfl rfl fun a hf => oR hf (rE hf rfl rfl) rfl fun a hf => oR hf (rE hf rfl rfl) rfl fun a hf => oa hf rfl rfl fun a hf => oa hf rfl rfl fun a hf => oN <| ct <| wq <| wr <| om hf rfl rfl fun a hf => oa hf rfl rfl fun a hf => oN <| ct <| wp_ret ?_
 replace hw : Ok E I2_60 (F) w := hw.sub (sc sr)
 have ho := oI hp
 subst ho
 exact b_ret1 hf results48 rfl ⟨_, rfl, ⟨rfl, (hw.back hle70 sr)⟩⟩

theorem get_way_next_ok {E : World} {I : IH} {F : List Atom} {w : World} {a0b : Nat} {a0_p_t : List Node} {a0_p_tv115 : Value} {a0_p_left : ByteArray} {a0_p_nodes : List Int} {a0_p_nodesv : Value} {a0_p_nodesm : Nat} {a0_p_nodescs : List Value} {res0 : Int} {new_a0_p_left : ByteArray} (hw : Ok E I (.blk a0b (.cells ⟨[a0_p_tv115, Value.string a0_p_left, a0_p_nodesv]⟩ 103 (0, 0)) :: .row a0_p_nodesv 3 1 a0_p_nodesm a0_p_nodescs :: F) w) (hG : Gl I) (hR116 : RS ek_Node I a0_p_tv115 a0_p_t) (ha0_p_nodes : RowR (ekI .i64) I a0_p_nodescs a0_p_nodes) (hp : get_way_next.f a0_p_t a0_p_left a0_p_nodes = some (res0, new_a0_p_left)) :
  Calls P 76 ⟨[Value.pointer (some ⟨a0b, 0, none⟩)]⟩ w fun e w' => ∃ v, e = .returned v ∧ v = Value.int .i64 res0 ∧ Ok E I (.blk a0b (.cells ⟨[a0_p_tv115, Value.string new_a0_p_left, a0_p_nodesv]⟩ 103 (0, 0)) :: .row a0_p_nodesv 3 1 a0_p_nodesm a0_p_nodescs :: F) w' := by
 refine c_enter func76 rfl ntmps76 rfl fun a hf => ?_
 replace hf : Fr 83 [(0, .pointer (some ⟨a0b, 0, none⟩))] a := hf
 unfold get_way_next.f at hp
 refine wq <| wr <| oa hf rfl rfl fun a hf => oN <| ct <| wq <| c_drawn mix [19] (.rd 0 (.rd 1 (.rd 2 (.rd 3 (.rd 4 (.rd 5 (.rd 6 (.rd 7 (.rd 8 (.rd 9 (.rd 10 (.rd 11 (.rd 12 (.rd 13 (.rd 14 (.rd 15 (.rd 16 (.rd 17 (.ef 18 (.ef 19 .done)))))))))))))))))))) (by kernel_rfl) hw (fun w => Ok E I (.blk a0b (.cells ⟨[a0_p_tv115, .string a0_p_left, a0_p_nodesv]⟩ 103 (0, 0)) :: .row a0_p_nodesv 3 1 a0_p_nodesm a0_p_nodescs :: F) w) (fun w hw => ⟨hw.sub (scc (scc sr)), ?_⟩)
 refine tm rfl hf rfl rfl fun a hf => tR rfl hf (fun w hw => nC hf rfl) rfl fun a hf => tR rfl hf (fun w hw => rF hf rfl fd_103_0) rfl fun a hf => tR rfl hf (fun w hw => rL hw hf rfl ty_27 0 rfl rfl) rfl fun a hf => tm rfl hf rfl rfl fun a hf => tR rfl hf (fun w hw => nC hf rfl) rfl fun a hf => tR rfl hf (fun w hw => rF hf rfl fd_103_2) rfl fun a hf => tR rfl hf (fun w hw => rL hw hf rfl ty_55 0 rfl rfl) rfl fun a hf => tm rfl hf rfl rfl fun a hf => tR rfl hf (fun w hw => nC hf rfl) rfl fun a hf => tR rfl hf (fun w hw => rF hf rfl fd_103_2) rfl fun a hf => tR rfl hf (fun w hw => rL hw hf rfl ty_55 0 rfl rfl) rfl fun a hf => tR rfl hf (fun w hw => r_lenL (K := (ekI .i64)) hf el_55 rfl (rR (K := (ekI .i64)) hw (i := 1) rfl ha0_p_nodes)) rfl fun a hf => tR rfl hf (fun w hw => r_sub hf rfl rfl) rfl fun a hf => ?_
 obtain ⟨hg2, hp⟩ := gS hp
 refine tR rfl hf (fun w hw => rI (K := (ekI .i64)) hf el_55 rfl rfl (rR (K := (ekI .i64)) hw (i := 1) rfl ha0_p_nodes) hg2) rfl fun a hf => tR rfl hf (fun w hw => r_loadH (K := (ekI .i64)) hf rfl ty_3 (rR (K := (ekI .i64)) hw (i := 1) rfl ha0_p_nodes) hg2 rfl (fun cs h => ekI_f0 h)) rfl fun a hf => ?_
 obtain ⟨hg3, hp⟩ := gS hp
 refine tR rfl hf (fun w hw => rI (K := ek_Node) hf el_27 rfl rfl (hR116.rd hw) hg3) rfl fun a hf => tR rfl hf (fun w hw => r_loadHP (K := ek_Node) hf rfl ty_106 (hR116.rd hw) hg3 rfl (vs := (.int .i64 ((gt a0_p_t (gt a0_p_nodes (w64 ((a0_p_nodes.length : Int) - 1)))).kind_) :: .string ((gt a0_p_t (gt a0_p_nodes (w64 ((a0_p_nodes.length : Int) - 1)))).path_) :: .bool ((gt a0_p_t (gt a0_p_nodes (w64 ((a0_p_nodes.length : Int) - 1)))).has_) :: .string ((gt a0_p_t (gt a0_p_nodes (w64 ((a0_p_nodes.length : Int) - 1)))).value_) :: arrC .i64 ((gt a0_p_t (gt a0_p_nodes (w64 ((a0_p_nodes.length : Int) - 1)))).kids_))) (fun cs h => Node_all h) (by simp [arrC_len])) rfl fun a hf => t_ef rfl ?_
 obtain ⟨b4, w, hrun5, hw⟩ := e_alloc (P := P) (a := a) hw ty_106
 refine t_eff hf (hrun5 ..) rfl fun a hf => ⟨.inr (hw.back (IH.le_refl _) (sc (scc (scc sr)))), ?_⟩
 refine t_ef rfl ?_
 obtain ⟨w, hrun7, hw⟩ := e_store (P := P) hw hf (x := .tmp 3) (y := .tmp 24) rfl rfl ty_106 0 rfl (vs := (.int .i64 ((gt a0_p_t (gt a0_p_nodes (w64 ((a0_p_nodes.length : Int) - 1)))).kind_) :: .string ((gt a0_p_t (gt a0_p_nodes (w64 ((a0_p_nodes.length : Int) - 1)))).path_) :: .bool ((gt a0_p_t (gt a0_p_nodes (w64 ((a0_p_nodes.length : Int) - 1)))).has_) :: .string ((gt a0_p_t (gt a0_p_nodes (w64 ((a0_p_nodes.length : Int) - 1)))).value_) :: arrC .i64 ((gt a0_p_t (gt a0_p_nodes (w64 ((a0_p_nodes.length : Int) - 1)))).kids_))) rfl (by simp [arrC_len]) (oC rfl (oC rfl (oC rfl (oC rfl (arrC_one _ _))))) (by simp [arrC_len]) (cs' := (.int .i64 ((gt a0_p_t (gt a0_p_nodes (w64 ((a0_p_nodes.length : Int) - 1)))).kind_) :: .string ((gt a0_p_t (gt a0_p_nodes (w64 ((a0_p_nodes.length : Int) - 1)))).path_) :: .bool ((gt a0_p_t (gt a0_p_nodes (w64 ((a0_p_nodes.length : Int) - 1)))).has_) :: .string ((gt a0_p_t (gt a0_p_nodes (w64 ((a0_p_nodes.length : Int) - 1)))).value_) :: arrC .i64 ((gt a0_p_t (gt a0_p_nodes (w64 ((a0_p_nodes.length : Int) - 1)))).kids_))) (by simp [arrC_len])
 dsimp only [List.set] at hw
 refine t_effU (hrun7 ..) ⟨.inl rfl, ?_⟩
 refine t_done <| ct <| wq <| wq <| wr <| oR hf (rF hf rfl fd_106_0) rfl fun a hf => oR hf (rL hw hf rfl ty_3 0 rfl rfl) rfl fun a hf => oN <| ct <| wp_block <| wq <| wr <| oR hf (iC hf rfl rfl rfl) rfl fun a hf => oa hf rfl rfl fun a hf => oN <| ct ?_
 refine cC hf rfl (fun hb8 => ?_) (fun hb8 => ?_)
 ·replace hp := cond_t hb8 hp
  refine wq <| c_drawn mix [] (.rd 0 (.rd 1 (.rd 2 (.rd 3 (.rd 4 (.rd 5 (.ef 6 (.rd 7 (.rd 8 (.rd 9 (.rd 10 (.rd 11 .done)))))))))))) (by kernel_rfl) hw (fun w => Ok E I (.blk b4 (.cells ⟨.int .i64 ((gt a0_p_t (gt a0_p_nodes (w64 ((a0_p_nodes.length : Int) - 1)))).kind_) :: .string ((gt a0_p_t (gt a0_p_nodes (w64 ((a0_p_nodes.length : Int) - 1)))).path_) :: .bool ((gt a0_p_t (gt a0_p_nodes (w64 ((a0_p_nodes.length : Int) - 1)))).has_) :: .string ((gt a0_p_t (gt a0_p_nodes (w64 ((a0_p_nodes.length : Int) - 1)))).value_) :: arrC .i64 ((gt a0_p_t (gt a0_p_nodes (w64 ((a0_p_nodes.length : Int) - 1)))).kids_)⟩ 106 (0, 0)) :: .blk a0b (.cells ⟨[a0_p_tv115, .string a0_p_left, a0_p_nodesv]⟩ 103 (0, 0)) :: .row a0_p_nodesv 3 1 a0_p_nodesm a0_p_nodescs :: F) w) (fun w hw => ⟨hw.sub (scc (scc (scc sr))), ?_⟩)
  refine tm rfl hf rfl rfl fun a hf => tR rfl hf (fun w hw => nC hf rfl) rfl fun a hf => tR rfl hf (fun w hw => rF hf rfl fd_103_1) rfl fun a hf => tR rfl hf (fun w hw => rL hw hf rfl ty_9 1 rfl rfl) rfl fun a hf => tR rfl hf (fun w hw => rF hf rfl fd_106_1) rfl fun a hf => tR rfl hf (fun w hw => rL hw hf rfl ty_9 0 rfl rfl) rfl fun a hf => t_ef rfl ?_
  obtain ⟨y13, hy12, hp⟩ := bS hp
  obtain ⟨y10, y11⟩ := y13
  have hc14 := strings_CutPrefix_ok hw hG hy12
  refine t_call hf cb_105 rfl rfl hc14 (fun v16 w a hK15 hf => ?_)
  obtain ⟨rfl, hw⟩ := hK15
  refine ⟨.inr (hw.back (IH.le_refl _) (scc (scc (scc sr)))), ?_⟩
  refine tm rfl hf rfl rfl fun a hf => tR rfl hf (fun w hw => rE hf rfl rfl) rfl fun a hf => tR rfl hf (fun w hw => rE hf rfl rfl) rfl fun a hf => tR rfl hf (fun w hw => r_assign hf rfl) rfl fun a hf => tR rfl hf (fun w hw => r_assign hf rfl) rfl fun a hf => t_done <| ct <| wq <| wq <| wr <| om hf rfl rfl fun a hf => oR hf (r_not hf rfl) rfl fun a hf => oN <| ct <| cC hf rfl (fun hb17 => ?_) (fun hb17 => ?_)
  ·replace hp := cond_t hb17 hp
   refine wq <| wr <| oa hf rfl rfl fun a hf => oN <| ct <| wp_ret <| c_thenR <| c_blockR <| c_thenR ?_
   replace hw : Ok E I (.blk a0b (.cells ⟨[a0_p_tv115, .string a0_p_left, a0_p_nodesv]⟩ 103 (0, 0)) :: .row a0_p_nodesv 3 1 a0_p_nodesm a0_p_nodescs :: F) w := hw.sub (sc (scc (scc sr)))
   have ho := oI hp
   simp only [Prod.mk.injEq] at ho
   obtain ⟨rfl, rfl⟩ := ho
   exact b_ret1 hf results76 rfl ⟨_, rfl, ⟨rfl, hw⟩⟩
  ·replace hp := cond_f hb17 hp
   refine wp_skip <| ct <| wq <| wr <| om hf rfl rfl fun a hf => om hf rfl rfl fun a hf => oR hf (nC hf rfl) rfl fun a hf => oR hf (rF hf rfl fd_103_1) rfl fun a hf => ?_
   obtain ⟨w, hrun18, hw⟩ := e_store (P := P) hw hf (x := .tmp 44) (y := .tmp 42) rfl rfl ty_9 1 rfl (vs := [.string y10]) (oE rfl) rfl (oC rfl ones_nil) (by simp [arrC_len]) (cs' := [a0_p_tv115, .string y10, a0_p_nodesv]) rfl
   dsimp only [List.set] at hw
   refine o_effU (hrun18 ..) <| oN <| ct <| wq <| wr <| oR hf (rF hf rfl fd_106_4) rfl fun a hf => ?_
   obtain ⟨hg19, hp⟩ := gS hp
   refine oR hf (r_indexAddrA hf el_104 rfl rfl hg19) rfl fun a hf => oR hf (rL hw hf rfl ty_3 0 rfl (arr_at (k := .i64) (v := (gt a0_p_t (gt a0_p_nodes (w64 ((a0_p_nodes.length : Int) - 1)))).kids_) rfl hg19)) rfl fun a hf => oa hf rfl rfl fun a hf => oN <| ct <| wp_ret <| c_blockR <| c_thenR ?_
   replace hw : Ok E I (.blk a0b (.cells ⟨[a0_p_tv115, .string y10, a0_p_nodesv]⟩ 103 (0, 0)) :: .row a0_p_nodesv 3 1 a0_p_nodesm a0_p_nodescs :: F) w := hw.sub (sc (scc (scc sr)))
   have ho := oI hp
   simp only [Prod.mk.injEq] at ho
   obtain ⟨rfl, rfl⟩ := ho
   exact b_ret1 hf results76 rfl ⟨_, rfl, ⟨rfl, hw⟩⟩
 ·replace hp := cond_f hb8 hp
  refine wq <| wr <| oR hf (iC hf rfl rfl rfl) rfl fun a hf => oa hf rfl rfl fun a hf => oN <| ct <| cC hf rfl (fun hb20 => ?_) (fun hb20 => ?_)
  ·replace hp := cond_t hb20 hp
   refine wq ?_
   obtain ⟨out41, hp, hq42⟩ := bS hp
   refine c_cut (fun a w => ∃ y40 : Bool, y40 = out41 ∧ Ok E I (.blk b4 (.cells ⟨.int .i64 ((gt a0_p_t (gt a0_p_nodes (w64 ((a0_p_nodes.length : Int) - 1)))).kind_) :: .string ((gt a0_p_t (gt a0_p_nodes (w64 ((a0_p_nodes.length : Int) - 1)))).path_) :: .bool ((gt a0_p_t (gt a0_p_nodes (w64 ((a0_p_nodes.length : Int) - 1)))).has_) :: .string ((gt a0_p_t (gt a0_p_nodes (w64 ((a0_p_nodes.length : Int) - 1)))).value_) :: arrC .i64 ((gt a0_p_t (gt a0_p_nodes (w64 ((a0_p_nodes.length : Int) - 1)))).kids_)⟩ 106 (0, 0)) :: .blk a0b (.cells ⟨[a0_p_tv115, .string a0_p_left, a0_p_nodesv]⟩ 103 (0, 0)) :: .row a0_p_nodesv 3 1 a0_p_nodesm a0_p_nodescs :: F) w ∧ Fr 83 ([(0, .pointer (some ⟨a0b, 0, none⟩)), (3, .pointer (some ⟨b4, 0, none⟩)), (65, .bool y40)]) a) ?_ ?_
   ·refine wr <| om hf rfl rfl fun a hf => oR hf (nC hf rfl) rfl fun a hf => oR hf (rF hf rfl fd_103_1) rfl fun a hf => oR hf (rL hw hf rfl ty_9 1 rfl rfl) rfl fun a hf => oR hf (r_scmp hf rfl rfl rfl) rfl fun a hf => om hf rfl rfl fun a hf => g_split hf (g := 55) rfl (fun hb43 hf => ?_) (fun hb43 hf => ?_)
    ·replace hp := cond_t hb43 hp
     refine oQ hf (g := 55) rfl fun a hf => oQ hf (g := 55) rfl fun a hf => oQ hf (g := 55) rfl fun a hf => oQ hf (g := 55) rfl fun a hf => oQ hf (g := 55) rfl fun a hf => oQ hf (g := 55) rfl fun a hf => oQ hf (g := 55) rfl fun a hf => oQ hf (g := 55) rfl fun a hf => oQ hf (g := 55) rfl fun a hf => oR hf (pT hf rfl rfl) rfl fun a hf => oN <| ct ?_
     have ho := oI hp
     subst ho
     exact ⟨true, rfl, hw, hf.to ⟨rfl, rfl, rfl, trivial⟩⟩
    ·replace hp := cond_f hb43 hp
     refine oW hf (g := 55) rfl rfl <| om hf rfl rfl fun a hf => oW hf (g := 55) rfl rfl <| oR hf (nC hf rfl) rfl fun a hf => oW hf (g := 55) rfl rfl <| oR hf (rF hf rfl fd_103_1) rfl fun a hf => oW hf (g := 55) rfl rfl <| oR hf (rL hw hf rfl ty_9 1 rfl rfl) rfl fun a hf => ?_
     obtain ⟨hg44, hp⟩ := gS hp
     refine oW hf (g := 55) rfl rfl <| oR hf (r_indexS hf und_9 rfl rfl hg44) rfl fun a hf => oW hf (g := 55) rfl rfl <| oR hf (rF hf rfl fd_106_4) rfl fun a hf => ?_
     obtain ⟨hg45, hp⟩ := gS hp
     refine oW hf (g := 55) rfl rfl <| oR hf (r_indexAddrA hf el_104 rfl rfl hg45) rfl fun a hf => oW hf (g := 55) rfl rfl <| oR hf (rL hw hf rfl ty_3 0 rfl (arr_at (k := .i64) (v := (gt a0_p_t (gt a0_p_nodes (w64 ((a0_p_nodes.length : Int) - 1)))).kids_) rfl hg45)) rfl fun a hf => oW hf (g := 55) rfl rfl <| oR hf (iC hf rfl rfl rfl) rfl fun a hf => oR hf (pF hf rfl rfl) rfl fun a hf => oN <| ct ?_
     have ho := oI hp
     subst ho
     exact ⟨((vg ((gt a0_p_t (gt a0_p_nodes (w64 ((a0_p_nodes.length : Int) - 1)))).kids_) (bt a0_p_left 0)) == 0), rfl, hw, hf.to ⟨rfl, rfl, rfl, trivial⟩⟩
   ·intro a w hM
    obtain ⟨y40, rfl, hw, hf⟩ := hM
    replace hp := hq42
    refine cC hf rfl (fun hb46 => ?_) (fun hb46 => ?_)
    ·replace hp := cond_t hb46 hp
     refine wq <| wr <| oa hf rfl rfl fun a hf => oN <| ct <| wp_ret <| c_thenR <| c_blockR <| c_thenR ?_
     replace hw : Ok E I (.blk a0b (.cells ⟨[a0_p_tv115, .string a0_p_left, a0_p_nodesv]⟩ 103 (0, 0)) :: .row a0_p_nodesv 3 1 a0_p_nodesm a0_p_nodescs :: F) w := hw.sub (sc (scc (scc sr)))
     have ho := oI hp
     simp only [Prod.mk.injEq] at ho
     obtain ⟨rfl, rfl⟩ := ho
     exact b_ret1 hf results76 rfl ⟨_, rfl, ⟨rfl, hw⟩⟩
    ·replace hp := cond_f hb46 hp
     refine wp_skip <| ct <| wq <| wr <| om hf rfl rfl fun a hf => oR hf (nC hf rfl) rfl fun a hf => oR hf (rF hf rfl fd_103_1) rfl fun a hf => oR hf (rL hw hf rfl ty_9 1 rfl rfl) rfl fun a hf => ?_
     obtain ⟨hg47, hp⟩ := gS hp
     refine oR hf (r_indexS hf und_9 rfl rfl hg47) rfl fun a hf => oR hf (rF hf rfl fd_106_4) rfl fun a hf => ?_
     obtain ⟨hg48, hp⟩ := gS hp
     refine oR hf (r_indexAddrA hf el_104 rfl rfl hg48) rfl fun a hf => oR hf (rL hw hf rfl ty_3 0 rfl (arr_at (k := .i64) (v := (gt a0_p_t (gt a0_p_nodes (w64 ((a0_p_nodes.length : Int) - 1)))).kids_) rfl hg48)) rfl fun a hf => oa hf rfl rfl fun a hf => oN <| ct <| wq <| wr <| om hf rfl rfl fun a hf => om hf rfl rfl fun a hf => oR hf (nC hf rfl) rfl fun a hf => oR hf (rF hf rfl fd_103_1) rfl fun a hf => oR hf (rL hw hf rfl ty_9 1 rfl rfl) rfl fun a hf => ?_
     obtain ⟨hg49, hp⟩ := gS hp
     refine oR hf (r_sliceSl hf und_9 rfl rfl hg49) rfl fun a hf => oR hf (nC hf rfl) rfl fun a hf => oR hf (rF hf rfl fd_103_1) rfl fun a hf => ?_
     obtain ⟨w, hrun50, hw⟩ := e_store (P := P) hw hf (x := .tmp 81) (y := .tmp 79) rfl rfl ty_9 1 rfl (vs := [.string (sub a0_p_left 1 (a0_p_left.size : Int))]) (oE rfl) rfl (oC rfl ones_nil) (by simp [arrC_len]) (cs' := [a0_p_tv115, .string (sub a0_p_left 1 (a0_p_left.size : Int)), a0_p_nodesv]) rfl
     dsimp only [List.set] at hw
     refine o_effU (hrun50 ..) <| oN <| ct <| wq <| wr <| om hf rfl rfl fun a hf => oa hf rfl rfl fun a hf => oN <| ct <| wp_ret <| c_blockR <| c_thenR ?_
     replace hw : Ok E I (.blk a0b (.cells ⟨[a0_p_tv115, .string (sub a0_p_left 1 (a0_p_left.size : Int)), a0_p_nodesv]⟩ 103 (0, 0)) :: .row a0_p_nodesv 3 1 a0_p_nodesm a0_p_nodescs :: F) w := hw.sub (sc (scc (scc sr)))
     have ho := oI hp
     simp only [Prod.mk.injEq] at ho
     obtain ⟨rfl, rfl⟩ := ho
     exact b_ret1 hf results76 rfl ⟨_, rfl, ⟨rfl, hw⟩⟩
  ·replace hp := cond_f hb20 hp
   refine wp_skip <| c_blockN <| ct <| wq <| wr <| oa hf rfl rfl fun a hf => oN <| ct <| wp_ret ?_
   replace hw : Ok E I (.blk a0b (.cells ⟨[a0_p_tv115, .string a0_p_left, a0_p_nodesv]⟩ 103 (0, 0)) :: .row a0_p_nodesv 3 1 a0_p_nodesm a0_p_nodescs :: F) w := hw.sub (sc (scc (scc sr)))
   have ho := oI hp
   simp only [Prod.mk.injEq] at ho
   obtain ⟨rfl, rfl⟩ := ho
   exact b_ret1 hf results76 rfl ⟨_, rfl, ⟨rfl, hw⟩⟩

theorem get_gone_ok {E : World} {I : IH} {F : List Atom} {w : World} {a0 : List Node} {a0v1 : Value} {a1 : ByteArray} {res0 : Option get_way_T} {res1 : Int} (hw : Ok E I (F) w) (hG : Gl I) (hR2 : RS ek_Node I a0v1 a0) (hp : get_gone.f a0 a1 = some (res0, res1)) :
  Calls P 40 ⟨[a0v1, Value.string a1]⟩ w fun e w' => ∃ v, e = .returned v ∧ ((res0 = none ∧ v = Value.tuple ⟨[Value.pointer none, Value.int .i64 res1]⟩ ∧ Ok E I (F) w') ∨ (∃ ox : get_way_T, res0 = some ox ∧ ∃ I2 : IH, ∃ rb221 : Nat, ∃ rvv217 : Value, ∃ rvv219 : Value, v = Value.tuple ⟨[Value.pointer (some ⟨rb221, 0, none⟩), Value.int .i64 res1]⟩ ∧ IH.le I I2 ∧ Ok E I2 (.blk rb221 (.cells ⟨[rvv217, Value.string ox.p_left_, rvv219]⟩ 103 (0, 0)) :: F) w' ∧ RS ek_Node I2 rvv217 ox.p_t_ ∧ RS (ekI .i64) I2 rvv219 ox.p_nodes_)) := by
 refine c_enter func40 rfl ntmps40 rfl fun a hf => ?_
 replace hf : Fr 50 [(0, a0v1), (1, .string a1)] a := hf
 unfold get_gone.f at hp
 refine wq <| wr <| oa hf rfl rfl fun a hf => oa hf rfl rfl fun a hf => oN <| ct <| wq <| wp_block <| wq <| wr <| om hf rfl rfl fun a hf => ?_
 obtain ⟨y15, hy16, hp⟩ := bS hp
 have hc18 := trie_Good_ok hw hG hR2 hy16
 refine o_call hf cb_48 rfl rfl hc18 (fun v20 w a hK19 hf => ?_)
 obtain ⟨rfl, hw⟩ := hK19
 refine oR hf (r_not hf rfl) rfl fun a hf => oa hf rfl rfl fun a hf => oN <| ct <| cC hf rfl (fun hb21 => ?_) (fun hb21 => ?_)
 ·replace hp := cond_t hb21 hp
  refine wq <| wr <| oa hf rfl rfl fun a hf => oa hf rfl rfl fun a hf => oN <| ct <| wp_ret <| c_blockR <| c_thenR ?_
  have ho := oI hp
  simp only [Prod.mk.injEq] at ho
  obtain ⟨rfl, rfl⟩ := ho
  exact b_ret2 hf results40 rfl rfl ⟨_, rfl, .inl ⟨rfl, rfl, hw⟩⟩
 ·replace hp := cond_f hb21 hp
  obtain ⟨out25, hp, hq26⟩ := bS hp
  refine c_cut (fun a w => ∃ y24 : Bool, y24 = out25 ∧ Ok E I (F) w ∧ Fr 50 ([(0, a0v1), (1, .string a1), (12, .bool y24)]) a) ?_ ?_
  ·refine wr <| om hf rfl rfl fun a hf => oR hf (r_scmp hf rfl rfl rfl) rfl fun a hf => om hf rfl rfl fun a hf => g_split hf (g := 15) rfl (fun hb27 hf => ?_) (fun hb27 hf => ?_)
   ·replace hp := cond_t hb27 hp
    refine oQ hf (g := 15) rfl fun a hf => oQ hf (g := 15) rfl fun a hf => oQ hf (g := 15) rfl fun a hf => oR hf (pT hf rfl rfl) rfl fun a hf => oa hf rfl rfl fun a hf => oN <| ct ?_
    have ho := oI hp
    subst ho
    exact ⟨true, rfl, hw, hf.to ⟨rfl, rfl, rfl, trivial⟩⟩
   ·replace hp := cond_f hb27 hp
    refine oW hf (g := 15) rfl rfl <| om hf rfl rfl fun a hf => oW hf (g := 15) rfl rfl <| oR hf (r_lenS hf und_9 rfl) rfl fun a hf => oW hf (g := 15) rfl rfl <| oR hf (iC hf rfl rfl rfl) rfl fun a hf => oR hf (pF hf rfl rfl) rfl fun a hf => oa hf rfl rfl fun a hf => oN <| ct ?_
    have ho := oI hp
    subst ho
    exact ⟨(decide ((a1.size : Int) > 8)), rfl, hw, hf.to ⟨rfl, rfl, rfl, trivial⟩⟩
  ·intro a w hM
   obtain ⟨y24, rfl, hw, hf⟩ := hM
   replace hp := hq26
   refine cC hf rfl (fun hb28 => ?_) (fun hb28 => ?_)
   ·replace hp := cond_t hb28 hp
    refine wq <| wr <| oa hf rfl rfl fun a hf => oa hf rfl rfl fun a hf => oN <| ct <| wp_ret <| c_blockR <| c_thenR ?_
    have ho := oI hp
    simp only [Prod.mk.injEq] at ho
    obtain ⟨rfl, rfl⟩ := ho
    exact b_ret2 hf results40 rfl rfl ⟨_, rfl, .inl ⟨rfl, rfl, hw⟩⟩
   ·replace hp := cond_f hb28 hp
    refine wp_skip <| c_blockN <| ct <| wq <| wr <| om hf rfl rfl fun a hf => om hf rfl rfl fun a hf => ?_
    obtain ⟨y29, hy30, hp⟩ := bS hp
    have hc32 := nibble_Of_ok hw hG hy30
    refine o_call hf cb_69 rfl rfl hc32 (fun v34 w a hK33 hf => ?_)
    obtain ⟨rfl, hw⟩ := hK33
    refine oR hf (r_build hf bd_103 (vs := [a0v1, .string y29]) rfl ⟨hR2.one, rfl, trivial⟩ (by decide) (out := [a0v1, .string y29, .slice none 0 0]) rfl) rfl fun a hf => ?_
    obtain ⟨b35, w, hrun36, hw⟩ := e_box (P := P) hw hf (e := 103) (x := .tmp 23) rfl (cs := [a0v1, Value.string y29, Value.slice none 0 0]) rfl
    refine o_eff hf (hrun36 ..) rfl fun a hf => oa hf rfl rfl fun a hf => oN <| ct <| wq <| wq <| wr <| om hf rfl rfl fun a hf => oR hf (r_lenL (K := ek_Node) hf el_27 rfl (hR2.rd hw)) rfl fun a hf => oR hf (iC hf rfl rfl rfl) rfl fun a hf => oN <| ct <| cC hf rfl (fun hb38 => ?_) (fun hb38 => ?_)
    ·replace hp := cond_t hb38 hp
     refine wq <| wr <| om hf rfl rfl fun a hf => oa hf rfl rfl fun a hf => oa hf rfl rfl fun a hf => oN <| ct <| wp_ret <| c_thenR ?_
     have ho := oI hp
     simp only [Prod.mk.injEq] at ho
     obtain ⟨rfl, rfl⟩ := ho
     exact b_ret2 hf results40 rfl rfl ⟨_, rfl, .inr ⟨_, rfl, I, b35, a0v1, (Value.slice none 0 0), rfl, (IH.le_refl _), hw, hR2, RS.nil⟩⟩
    ·replace hp := cond_f hb38 hp
     refine wp_skip <| ct <| wq <| wr <| om hf rfl rfl fun a hf => ?_
     obtain ⟨w, v39, hrun40, hw, hRR41⟩ := e_buildSlice (P := P) (K := (ekI .i64)) (m := 1) hw hf (parts := [(0, .const (Value.int .i64 0))]) el_55 ty_3 rfl rfl rfl (ccs := [[Value.int .i64 0]]) rfl (xs := [0]) ⟨rfl, trivial⟩ rfl
     obtain ⟨cs42, hcs⟩ : ∃ cs, cs = ([[Value.int .i64 0]] : List (List Value)).flatten := ⟨_, rfl⟩
     rw [← hcs] at hw hRR41; clear hcs
     refine o_eff hf (hrun40 ..) rfl fun a hf => oR hf (nC hf rfl) rfl fun a hf => oR hf (rF hf rfl fd_103_2) rfl fun a hf => ?_
     obtain ⟨w, hrun44, hw⟩ := e_store (P := P) hw hf (x := .tmp 32) (y := .tmp 30) rfl rfl ty_55 1 rfl (vs := [v39]) (oE (row_one hw (i := 0) rfl)) rfl (oC (row_one hw (i := 0) rfl) ones_nil) (by simp [arrC_len]) (cs' := [a0v1, .string y29, v39]) rfl
     dsimp only [List.set] at hw
     refine o_effU (hrun44 ..) <| oN <| ct <| wq <| wq <| wr <| om hf rfl rfl fun a hf => ?_
     replace hw : Ok E I (.blk b35 (.cells ⟨[a0v1, .string y29, v39]⟩ 103 (0, 0)) :: .row v39 3 1 1 cs42 :: F) w := (hw.front (i := 0) rfl).front (i := 1) rfl
     obtain ⟨y48, hy47, hp⟩ := bS hp
     obtain ⟨y45, y46⟩ := y48
     have hc49 := get_way_next_ok hw hG hR2 hRR41 hy47
     refine o_call hf cb_76 rfl rfl hc49 (fun v51 w a hK50 hf => ?_)
     obtain ⟨rfl, hw⟩ := hK50
     refine oa hf rfl rfl fun a hf => oN <| ct ?_
     obtain ⟨out132, hp, hq133⟩ := bS hp
     refine c_cutX (fun a w => ∃ y126 : List Int, ∃ y131 : ByteArray, ∃ yv127 : Value, ∃ m128 : Nat, ∃ cs129 : List Value, (y126, y131) = out132 ∧ Ok E I (.blk b35 (.cells ⟨[a0v1, .string y131, yv127]⟩ 103 (0, 0)) :: .row yv127 3 1 m128 cs129 :: F) w ∧ Fr 50 ([(6, .pointer (some ⟨b35, 0, none⟩))]) a ∧ RowR (ekI .i64) I cs129 y126) ?_ ?_
     ·refine wp_block <| c_loop <| c_fuel (get_gone.l0 a0) out132 (fun (y99, y104, y105) a w => ∃ yv100 : Value, ∃ m101 : Nat, ∃ cs102 : List Value, Ok E I (.blk b35 (.cells ⟨[a0v1, .string y104, yv100]⟩ 103 (0, 0)) :: .row yv100 3 1 m101 cs102 :: F) w ∧ Fr 50 ([(6, .pointer (some ⟨b35, 0, none⟩)), (7, .int .i64 y105)]) a ∧ RowR (ekI .i64) I cs102 y99) (fun _ => rfl) ?_ BIG ([0], y46, y45) _ _ ⟨v39, 1, cs42, hw, hf.to ⟨rfl, rfl, trivial⟩, hRR41⟩ hp
      intro k st a w hI hp ih
      obtain ⟨y99, y104, y105⟩ := st
      obtain ⟨yv100, m101, cs102, hw, hf, hRR103⟩ := hI
      rw [get_gone.l0] at hp
      refine wq <| wq <| wr <| om hf rfl rfl fun a hf => oR hf (iC hf rfl rfl rfl) rfl fun a hf => oN <| ct <| cC hf rfl (fun hb135 => ?_) (fun hb135 => ?_)
      ·replace hp := cond_t hb135 hp
       refine wp_skip <| ct <| wq <| wp_block <| wr <| om hf rfl rfl fun a hf => om hf rfl rfl fun a hf => oR hf (nC hf rfl) rfl fun a hf => oR hf (rF hf rfl fd_103_2) rfl fun a hf => oR hf (rL hw hf rfl ty_55 0 rfl rfl) rfl fun a hf => om hf rfl rfl fun a hf => ?_
       obtain ⟨w, v136, hrun137, hw, hRR138⟩ := e_buildSlice (P := P) (K := (ekI .i64)) (m := 1) hw hf (parts := [(0, .tmp 44)]) el_55 ty_3 rfl rfl rfl (ccs := [[Value.int .i64 y105]]) rfl (xs := [y105]) ⟨rfl, trivial⟩ rfl
       obtain ⟨cs139, hcs⟩ : ∃ cs, cs = ([[Value.int .i64 y105]] : List (List Value)).flatten := ⟨_, rfl⟩
       rw [← hcs] at hw hRR138; clear hcs
       refine o_eff hf (hrun137 ..) rfl fun a hf => ?_
       obtain ⟨hg141, hp⟩ := gS hp
       obtain ⟨w, v142, m143, cs144, hrun146, hw, hRR145⟩ := e_append (P := P) (K := (ekI .i64)) (ty := 55) hw hf (s := .tmp 43) (x := .tmp 45) el_55 ty_3 rfl (by decide) 2 rfl rfl rfl hRR103 (ys := [y105]) (rR (K := (ekI .i64)) hw (i := 0) rfl hRR138) hg141
       replace hw : Ok E I (.row v136 3 1 1 cs139 :: .blk b35 (.cells ⟨[a0v1, .string y104, yv100]⟩ 103 (0, 0)) :: .row v142 3 1 m143 cs144 :: F) w := hw
       refine o_eff hf (hrun146 ..) rfl fun a hf => oR hf (nC hf rfl) rfl fun a hf => oR hf (rF hf rfl fd_103_2) rfl fun a hf => ?_
       obtain ⟨w, hrun147, hw⟩ := e_store (P := P) hw hf (x := .tmp 48) (y := .tmp 46) rfl rfl ty_55 1 rfl (vs := [v142]) (oE (row_one hw (i := 2) rfl)) rfl (oC (row_one hw (i := 2) rfl) ones_nil) (by simp [arrC_len]) (cs' := [a0v1, .string y104, v142]) rfl
       dsimp only [List.set] at hw
       refine o_effU (hrun147 ..) <| oN <| c_blockN <| ct <| wr <| om hf rfl rfl fun a hf => ?_
       replace hw : Ok E I (.blk b35 (.cells ⟨[a0v1, .string y104, v142]⟩ 103 (0, 0)) :: .row v142 3 1 m143 cs144 :: .row v136 3 1 1 cs139 :: F) w := (hw.front (i := 2) rfl).front (i := 2) rfl
       obtain ⟨y151, hy150, hp⟩ := bS hp
       obtain ⟨y148, y149⟩ := y151
       have hc152 := get_way_next_ok hw hG hR2 hRR145 hy150
       refine o_call hf cb_76 rfl rfl hc152 (fun v154 w a hK153 hf => ?_)
       obtain ⟨rfl, hw⟩ := hK153
       refine oa hf rfl rfl fun a hf => oN <| ct ?_
       replace hw : Ok E I (.blk b35 (.cells ⟨[a0v1, .string y149, v142]⟩ 103 (0, 0)) :: .row v142 3 1 m143 cs144 :: F) w := hw.sub (scc (scc (sc sr)))
       exact ih (y99 ++ [y105], y149, y148) _ _ ⟨v142, m143, cs144, hw, hf.to ⟨rfl, rfl, trivial⟩, hRR145⟩ hp
      ·replace hp := cond_f hb135 hp
       refine wp_exit <| c_thenE <| c_thenE <| c_exit <| ct ?_
       have ho := oI hp
       subst ho
       exact ⟨y99, y104, yv100, m101, cs102, rfl, hw, hf.to ⟨rfl, trivial⟩, hRR103⟩
     ·intro a w hM
      obtain ⟨y126, y131, yv127, m128, cs129, rfl, hw, hf, hRR130⟩ := hM
      replace hp := hq133
      refine ct <| wq <| wr <| om hf rfl rfl fun a hf => oa hf rfl rfl fun a hf => oa hf rfl rfl fun a hf => oN <| ct <| wp_ret ?_
      have hw : Ok E I (.row yv127 3 1 m128 cs129 :: .blk b35 (.cells ⟨[a0v1, Value.string y131, yv127]⟩ 103 (0, 0)) :: F) w := hw.front (i := 1) rfl
      obtain ⟨I156, hle157, hw, hR158⟩ := row_freeze (K := (ekI .i64)) hw hRR130
      replace hG := hG.mono hle157
      replace hR2 := hR2.mono hle157
      have ho := oI hp
      simp only [Prod.mk.injEq] at ho
      obtain ⟨rfl, rfl⟩ := ho
      exact b_ret2 hf results40 rfl rfl ⟨_, rfl, .inr ⟨_, rfl, I156, b35, a0v1, yv127, rfl, hle157, hw, hR2, hR158⟩⟩
end Go.Lf
