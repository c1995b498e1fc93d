import Derived.Test.YtckhmgglgbnaaaaZD
import Derived.Test.YtckhmgglgbnaaaaZF
import Derived.Test.YtckhmgglgbnaaaaUB
import Derived.Test.YtckhmgglgbnaaaaN
import Derived.Test.YtckhmgglgbnaaaaBL
import Derived.Test.YtckhmgglgbnaaaaZK6
import Derived.Test.YtckhmgglgbnaaaaZK8
set_option linter.unusedVariables false
set_option linter.unusedSimpArgs false
set_option maxHeartbeats 1000000
set_option maxRecDepth 20000
namespace Go.Lf
open Go Go.Proofs.Try
theorem trie_Same_ok {E : World} {I : IH} {F : List Atom} {w : World} {a0 : List Node} {a0v641 : Value} {a1 : List Node} {a1v643 : Value} {res0 : Bool} (hw : Ok E I (F) w) (hR642 : RS ek_Node I a0v641 a0) (hR644 : RS ek_Node I a1v643 a1) (hp : trie_Same.f a0 a1 = some res0) :
  Calls P 86 ⟨[a0v641, a1v643]⟩ w fun e w' => ∃ v, e = .returned v ∧ v = Value.bool res0 ∧ Ok E I (F) w' := by
 refine c_enter func86 rfl ntmps86 rfl fun a hf => ?_
 replace hf : Fr 26 [(0, a0v641), (1, a1v643)] a := hf
 unfold trie_Same.f at hp
 refine wq <| wr <| oa hf rfl rfl fun a hf => oN <| ct <| wq <| wq <| wr <| om hf rfl rfl fun a hf => oR hf (r_lenL (K := ek_Node) hf el_23 rfl (hR642.rd hw)) rfl fun a hf => om hf rfl rfl fun a hf => oR hf (r_lenL (K := ek_Node) hf el_23 rfl (hR644.rd hw)) rfl fun a hf => oR hf (iC hf rfl rfl rfl) rfl fun a hf => oN <| ct <| cC hf rfl (fun hb1 => ?_) (fun hb1 => ?_)
 ·replace hp := cond_t hb1 hp
  refine wq <| wr <| oa hf rfl rfl fun a hf => oN <| ct <| wp_ret <| c_thenR ?_
  have ho := oI hp
  subst ho
  exact b_ret1 hf results86 rfl ⟨_, rfl, ⟨rfl, hw⟩⟩
 ·replace hp := cond_f hb1 hp
  refine wp_skip <| ct <| wq <| wq <| wr <| om hf rfl rfl fun a hf => oR hf (r_lenL (K := ek_Node) hf el_23 rfl (hR642.rd hw)) rfl fun a hf => om hf rfl rfl fun a hf => oN <| ct ?_
  obtain ⟨out19, hp, hq20⟩ := bS hp
  refine c_cutX (fun a w => (.inl ()) = out19 ∧ Ok E I (F) w ∧ Fr 26 ([]) a) ?_ ?_
  ·refine wp_block <| c_loop <| c_fuel (trie_Same.l0 a0 a1) out19 (fun (y13 : Int) a w => Ok E I (F) w ∧ Fr 26 ([(0, a0v641), (1, a1v643), (12, .int .i64 (a0.length : Int)), (13, .int .i64 y13)]) a) (fun _ => rfl) ?_ BIG 0 _ _ ⟨hw, hf.to ⟨rfl, rfl, rfl, rfl, trivial⟩⟩ hp
   intro k y13 a w hI hp ih
   obtain ⟨hw, hf⟩ := hI
   rw [trie_Same.l0] at hp
   refine wq <| wr <| oR hf (iC hf rfl rfl rfl) rfl fun a hf => oN <| ct <| wq <| cC hf rfl (fun hb22 => ?_) (fun hb22 => ?_)
   ·replace hp := cond_t hb22 hp
    refine wp_skip <| ct <| wq <| wp_block <| wq <| wr <| om hf rfl rfl fun a hf => oa hf rfl rfl fun a hf => oN <| ct <| wq <| c_drawn mix [] (.rd 0 (.rd 1 (.rd 2 (.rd 3 (.rd 4 (.rd 5 (.rd 6 (.rd 7 (.rd 8 .done))))))))) (by kernel_rfl) hw (fun w => Ok E I (F) w) (fun w hw => ⟨hw.sub sr, ?_⟩)
    refine tm rfl hf rfl rfl fun a hf => tm rfl hf rfl rfl fun a hf => ?_
    obtain ⟨hg24, hp⟩ := gS hp
    refine tR rfl hf (fun w hw => rI (K := ek_Node) hf el_23 rfl rfl (hR642.rd hw) hg24) rfl fun a hf => tR rfl hf (fun w hw => r_loadHP (K := ek_Node) hf rfl ty_51 (hR642.rd hw) hg24 rfl (vs := (.int .i64 ((gt a0 y13).kind_) :: .string ((gt a0 y13).path_) :: .bool ((gt a0 y13).has_) :: .string ((gt a0 y13).value_) :: arrC .i64 ((gt a0 y13).kids_))) (fun cs h => Node_all h) (by simp [arrC_len])) rfl fun a hf => tm rfl hf rfl rfl fun a hf => tm rfl hf rfl rfl fun a hf => ?_
    obtain ⟨hg25, hp⟩ := gS hp
    refine tR rfl hf (fun w hw => rI (K := ek_Node) hf el_23 rfl rfl (hR644.rd hw) hg25) rfl fun a hf => tR rfl hf (fun w hw => r_loadHP (K := ek_Node) hf rfl ty_51 (hR644.rd hw) hg25 rfl (vs := (.int .i64 ((gt a1 y13).kind_) :: .string ((gt a1 y13).path_) :: .bool ((gt a1 y13).has_) :: .string ((gt a1 y13).value_) :: arrC .i64 ((gt a1 y13).kids_))) (fun cs h => Node_all h) (by simp [arrC_len])) rfl fun a hf => tR rfl hf (fun w hw => r_neq_Node hf (x := (gt a0 y13)) (y := (gt a1 y13)) rfl rfl) rfl fun a hf => t_done <| ct <| cC hf rfl (fun hb26 => ?_) (fun hb26 => ?_)
    ·replace hp := cond_t hb26 hp
     refine wq <| wr <| oa hf rfl rfl fun a hf => oN <| ct <| wp_ret <| c_blockR <| c_thenR <| c_thenR <| c_blockR <| c_thenR ?_
     have ho := oI hp
     subst ho
     replace hp := hq20
     refine c_thenR ?_
     have ho := oI hp
     subst ho
     exact b_ret1 hf results86 rfl ⟨_, rfl, ⟨rfl, hw⟩⟩
    ·replace hp := cond_f hb26 hp
     refine wp_skip <| c_blockN <| ct <| wr <| oR hf (r_add hf rfl rfl) rfl fun a hf => om hf rfl rfl fun a hf => oN <| ct ?_
     exact ih (w64 (y13 + 1)) _ _ ⟨hw, hf.to ⟨rfl, rfl, rfl, rfl, trivial⟩⟩ hp
   ·replace hp := cond_f hb22 hp
    refine wp_exit <| c_thenE <| c_thenE <| c_exit <| ct ?_
    have ho := oI hp
    subst ho
    exact ⟨rfl, hw, hf.to trivial⟩
  ·intro a w hM
   obtain ⟨rfl, hw, hf⟩ := hM
   replace hp := hq20
   refine ct <| wq <| wr <| oa hf rfl rfl fun a hf => oN <| ct <| wp_ret ?_
   have ho := oI hp
   subst ho
   exact b_ret1 hf results86 rfl ⟨_, rfl, ⟨rfl, hw⟩⟩

theorem trie_walked_ok {E : World} {I : IH} {F : List Atom} {w : World} {a0 : List Node} {a0v1 : Value} {res0 : trie_walker_T} {res1 : Bool} (hw : Ok E I (F) w) (hR2 : RS ek_Node I a0v1 a0) (hp : trie_walked.f a0 = some (res0, res1)) :
  Calls P 60 ⟨[a0v1]⟩ w fun e w' => ∃ v, e = .returned v ∧ ∃ I2 : IH, ∃ rb14133 : Nat, ∃ rvv14127 : Value, ∃ rvv14129 : Value, ∃ rvv14131 : Value, v = Value.tuple ⟨[Value.pointer (some ⟨rb14133, 0, none⟩), Value.bool res1]⟩ ∧ IH.le I I2 ∧ Ok E I2 (.blk rb14133 (.cells ⟨[rvv14127, Value.int .i64 res0.p_next_, rvv14129, rvv14131]⟩ 120 (0, 0)) :: F) w' ∧ RS ek_Node I2 rvv14127 res0.p_t_ ∧ RS ek_Pair I2 rvv14129 res0.p_l_ ∧ RS ekS I2 rvv14131 res0.p_paths_ := by
 refine c_enter func60 rfl ntmps60 rfl fun a hf => ?_
 replace hf : Fr 34 [(0, a0v1)] a := hf
 unfold trie_walked.f at hp
 refine wq <| wr <| oa hf rfl rfl fun a hf => oa hf rfl rfl fun a hf => oN <| ct <| wq <| wr <| om hf rfl rfl fun a hf => oR hf (r_build hf bd_120 (vs := [a0v1]) rfl ⟨hR2.one, trivial⟩ (by decide) (out := [a0v1, .int .i64 0, .slice none 0 0, .slice none 0 0]) rfl) rfl fun a hf => ?_
 obtain ⟨b1, w, hrun2, hw⟩ := e_box (P := P) hw hf (e := 120) (x := .tmp 8) rfl (cs := [a0v1, Value.int .i64 0, Value.slice none 0 0, Value.slice none 0 0]) rfl
 refine o_eff hf (hrun2 ..) rfl fun a hf => oa hf rfl rfl fun a hf => oN <| ct <| wq ?_
 replace hw := hw.nilrow 55 2
 have hRR1069 : RowR ek_Pair I [] [] := RowR.nil
 replace hw := hw.nilrow 9 1
 have hRR1071 : RowR ekS I [] [] := RowR.nil
 obtain ⟨out1102, hp, hq1103⟩ := bS hp
 refine c_cut (fun a w => ∃ y1090 : List Pair, ∃ y1095 : List ByteArray, ∃ y1100 : Int, ∃ y1101 : Bool, ∃ yv1091 : Value, ∃ m1092 : Nat, ∃ cs1093 : List Value, ∃ yv1096 : Value, ∃ m1097 : Nat, ∃ cs1098 : List Value, (y1090, y1095, y1100, y1101) = out1102 ∧ Ok E I (.row yv1096 9 1 m1097 cs1098 :: .row yv1091 55 2 m1092 cs1093 :: .blk b1 (.cells ⟨[a0v1, .int .i64 y1100, yv1091, yv1096]⟩ 120 (0, 0)) :: F) w ∧ Fr 34 ([(0, a0v1), (4, .pointer (some ⟨b1, 0, none⟩)), (17, .bool y1101)]) a ∧ RowR ek_Pair I cs1093 y1090 ∧ RowR ekS I cs1098 y1095) ?_ ?_
 ·refine wr <| om hf rfl rfl fun a hf => oR hf (r_lenL (K := ek_Node) hf el_23 rfl (hR2.rd hw)) rfl fun a hf => oR hf (iC hf rfl rfl rfl) rfl fun a hf => om hf rfl rfl fun a hf => g_split hf (g := 13) rfl (fun hb1104 hf => ?_) (fun hb1104 hf => ?_)
  ·replace hp := cond_t hb1104 hp
   refine oW hf (g := 13) rfl rfl <| om hf rfl rfl fun a hf => oW hf (g := 13) rfl rfl ?_
   replace hw : Ok E I (.blk b1 (.cells ⟨[a0v1, .int .i64 0, (.slice none 0 0), (.slice none 0 0)]⟩ 120 (0, 0)) :: .row (.slice none 0 0) 55 2 0 [] :: .row (.slice none 0 0) 9 1 0 [] :: F) w := ((hw.front (i := 0) rfl).front (i := 1) rfl).front (i := 2) rfl
   obtain ⟨y1110, hy1109, hp⟩ := bS hp
   obtain ⟨y1105, y1106, y1107, y1108⟩ := y1110
   have hc1111 := trie_walker_walk_ok BIG hw hR2 hRR1069 hRR1071 hy1109
   refine o_call hf cb_84 rfl rfl hc1111 (fun v1121 w a hK1112 hf => ?_)
   obtain ⟨rv1113, rm1114, rcs1115, rv1117, rm1118, rcs1119, rfl, hw, hRR1116, hRR1120⟩ := hK1112
   refine oW hf (g := 13) rfl rfl <| oR hf (r_not hf rfl) rfl fun a hf => oR hf (pT hf rfl rfl) rfl fun a hf => oN <| ct ?_
   have ho := oI hp
   subst ho
   replace hw : Ok E I (.row rv1117 9 1 rm1118 rcs1119 :: .row rv1113 55 2 rm1114 rcs1115 :: .blk b1 (.cells ⟨[a0v1, .int .i64 y1106, rv1113, rv1117]⟩ 120 (0, 0)) :: F) w := ((hw.front (i := 0) rfl).front (i := 1) rfl).front (i := 2) rfl
   exact ⟨y1107, y1108, y1106, (!y1105), rv1113, rm1114, rcs1115, rv1117, rm1118, rcs1119, rfl, hw, hf.to ⟨rfl, rfl, rfl, trivial⟩, hRR1116, hRR1120⟩
  ·replace hp := cond_f hb1104 hp
   refine oQ hf (g := 13) rfl fun a hf => oQ hf (g := 13) rfl fun a hf => oQ hf (g := 13) rfl fun a hf => oR hf (pF hf rfl rfl) rfl fun a hf => oN <| ct ?_
   have ho := oI hp
   subst ho
   exact ⟨([] : List Pair), ([] : List ByteArray), 0, false, (Value.slice none 0 0), 0, [], (Value.slice none 0 0), 0, [], rfl, hw, hf.to ⟨rfl, rfl, rfl, trivial⟩, hRR1069, hRR1071⟩
 ·intro a w hM
  obtain ⟨y1090, y1095, y1100, y1101, yv1091, m1092, cs1093, yv1096, m1097, cs1098, rfl, hw, hf, hRR1094, hRR1099⟩ := hM
  replace hp := hq1103
  refine cC hf rfl (fun hb1122 => ?_) (fun hb1122 => ?_)
  ·replace hp := cond_t hb1122 hp
   refine wq <| wr <| om hf rfl rfl fun a hf => oa hf rfl rfl fun a hf => oa hf rfl rfl fun a hf => oN <| ct <| wp_ret <| c_thenR ?_
   have hw : Ok E I (.row yv1091 55 2 m1092 cs1093 :: .row yv1096 9 1 m1097 cs1098 :: .blk b1 (.cells ⟨[a0v1, Value.int .i64 y1100, yv1091, yv1096]⟩ 120 (0, 0)) :: F) w := hw.front (i := 1) rfl
   obtain ⟨I1123, hle1124, hw, hR1125⟩ := row_freeze (K := ek_Pair) hw hRR1094
   replace hR2 := hR2.mono hle1124
   replace hRR1099 := hRR1099.mono hle1124
   have hw : Ok E I1123 (.row yv1096 9 1 m1097 cs1098 :: .blk b1 (.cells ⟨[a0v1, Value.int .i64 y1100, yv1091, yv1096]⟩ 120 (0, 0)) :: F) w := hw.front (i := 0) rfl
   obtain ⟨I1126, hle1127, hw, hR1128⟩ := row_freeze (K := ekS) hw hRR1099
   replace hR2 := hR2.mono hle1127
   replace hR1125 := hR1125.mono hle1127
   have ho := oI hp
   simp only [Prod.mk.injEq] at ho
   obtain ⟨rfl, rfl⟩ := ho
   exact b_ret2 hf results60 rfl rfl ⟨_, rfl, ⟨I1126, b1, a0v1, yv1091, yv1096, rfl, (IH.le_trans hle1124 hle1127), hw, hR2, hR1125, hR1128⟩⟩
  ·replace hp := cond_f hb1122 hp
   refine wp_skip <| ct <| wq <| wr <| om hf rfl rfl fun a hf => oR hf (nC hf rfl) rfl fun a hf => oR hf (rF hf rfl fd_120_2) rfl fun a hf => oR hf (rL hw hf rfl ty_43 2 rfl rfl) rfl fun a hf => ?_
   have hw : Ok E I (.row yv1091 55 2 m1092 cs1093 :: .row yv1096 9 1 m1097 cs1098 :: .blk b1 (.cells ⟨[a0v1, Value.int .i64 y1100, yv1091, yv1096]⟩ 120 (0, 0)) :: F) w := hw.front (i := 1) rfl
   obtain ⟨I627, hle628, hw, hR629⟩ := row_freeze (K := ek_Pair) hw hRR1094
   replace hR2 := hR2.mono hle628
   replace hRR1099 := hRR1099.mono hle628
   obtain ⟨y633, hy632, hp⟩ := bS hp
   obtain ⟨y630, y631⟩ := y633
   have hc634 := trie_Build_ok hw hR629 hy632
   refine o_call hf cb_85 rfl rfl hc634 (fun v638 w a hK635 hf => ?_)
   obtain ⟨I2_635, rvv636, rfl, hle639, hw, hR637⟩ := hK635
   replace hR2 := hR2.mono hle639
   replace hR629 := hR629.mono hle639
   replace hRR1099 := hRR1099.mono hle639
   refine om hf rfl rfl fun a hf => oR hf (rE hf rfl rfl) rfl fun a hf => oR hf (rE hf rfl rfl) rfl fun a hf => oa hf rfl rfl fun a hf => oa hf rfl rfl fun a hf => oN <| ct ?_
   obtain ⟨out43, hp, hq44⟩ := bS hp
   refine c_cut (fun a w => ∃ y42 : Bool, y42 = out43 ∧ Ok E I2_635 (.row yv1096 9 1 m1097 cs1098 :: .blk b1 (.cells ⟨[a0v1, .int .i64 y1100, yv1091, yv1096]⟩ 120 (0, 0)) :: F) w ∧ Fr 34 ([(2, .pointer (some ⟨b1, 0, none⟩)), (3, .bool y42)]) a) ?_ ?_
   ·refine wr <| om hf rfl rfl fun a hf => om hf rfl rfl fun a hf => om hf rfl rfl fun a hf => g_split hf (g := 29) rfl (fun hb45 hf => ?_) (fun hb45 hf => ?_)
    ·replace hp := cond_t hb45 hp
     refine oW hf (g := 29) rfl rfl <| om hf rfl rfl fun a hf => oW hf (g := 29) rfl rfl <| om hf rfl rfl fun a hf => oW hf (g := 29) rfl rfl ?_
     obtain ⟨y46, hy47, hp⟩ := bS hp
     have hc49 := trie_Same_ok hw hR2 hR637 hy47
     refine o_call hf cb_86 rfl rfl hc49 (fun v51 w a hK50 hf => ?_)
     obtain ⟨rfl, hw⟩ := hK50
     refine oR hf (pT hf rfl rfl) rfl fun a hf => oa hf rfl rfl fun a hf => oa hf rfl rfl fun a hf => oN <| ct ?_
     have ho := oI hp
     subst ho
     exact ⟨y46, rfl, hw, hf.to ⟨rfl, rfl, trivial⟩⟩
    ·replace hp := cond_f hb45 hp
     refine oQ hf (g := 29) rfl fun a hf => oQ hf (g := 29) rfl fun a hf => oQ hf (g := 29) rfl fun a hf => oR hf (pF hf rfl rfl) rfl fun a hf => oa hf rfl rfl fun a hf => oa hf rfl rfl fun a hf => oN <| ct ?_
     have ho := oI hp
     subst ho
     exact ⟨false, rfl, hw, hf.to ⟨rfl, rfl, trivial⟩⟩
   ·intro a w hM
    obtain ⟨y42, rfl, hw, hf⟩ := hM
    replace hp := hq44
    refine wp_ret ?_
    have hw : Ok E I2_635 (.row yv1096 9 1 m1097 cs1098 :: .blk b1 (.cells ⟨[a0v1, Value.int .i64 y1100, yv1091, yv1096]⟩ 120 (0, 0)) :: F) w := hw.front (i := 0) rfl
    obtain ⟨I52, hle53, hw, hR54⟩ := row_freeze (K := ekS) hw hRR1099
    replace hR2 := hR2.mono hle53
    replace hR629 := hR629.mono hle53
    have ho := oI hp
    simp only [Prod.mk.injEq] at ho
    obtain ⟨rfl, rfl⟩ := ho
    exact b_ret2 hf results60 rfl rfl ⟨_, rfl, ⟨I52, b1, a0v1, yv1091, yv1096, rfl, (IH.le_trans (IH.le_trans hle628 hle639) hle53), hw, hR2, hR629, hR54⟩⟩

theorem trie_Paths_ok {E : World} {I : IH} {F : List Atom} {w : World} {a0 : List Node} {a0v1 : Value} {res0 : List ByteArray} {res1 : Bool} (hw : Ok E I (F) w) (hR2 : RS ek_Node I a0v1 a0) (hp : trie_Paths.f a0 = some (res0, res1)) :
  Calls P 35 ⟨[a0v1]⟩ w fun e w' => ∃ v, e = .returned v ∧ ∃ I2 : IH, ∃ rvv14135 : Value, v = Value.tuple ⟨[rvv14135, Value.bool res1]⟩ ∧ IH.le I I2 ∧ Ok E I2 (F) w' ∧ RS ekS I2 rvv14135 res0 := by
 refine c_enter func35 rfl ntmps35 rfl fun a hf => ?_
 replace hf : Fr 17 [(0, a0v1)] a := hf
 unfold trie_Paths.f at hp
 refine wq <| wr <| oa hf rfl rfl fun a hf => oa hf rfl rfl fun a hf => oN <| ct <| wq <| wr <| om hf rfl rfl fun a hf => ?_
 obtain ⟨y58, hy57, hp⟩ := bS hp
 obtain ⟨y55, y56⟩ := y58
 have hc59 := trie_walked_ok hw hR2 hy57
 refine o_call hf cb_60 rfl rfl hc59 (fun v69 w a hK60 hf => ?_)
 obtain ⟨I2_60, rb67, rvv61, rvv63, rvv65, rfl, hle70, hw, hR62, hR64, hR66⟩ := hK60
 replace hR2 := hR2.mono hle70
 refine om hf rfl rfl fun a hf => oR hf (rE hf rfl rfl) rfl fun a hf => oR hf (rE hf rfl rfl) rfl fun a hf => oa hf rfl rfl fun a hf => oa hf rfl rfl fun a hf => oN <| ct <| wq <| wq <| wr <| om hf rfl rfl fun a hf => oR hf (r_not hf rfl) rfl fun a hf => oN <| ct <| cC hf rfl (fun hb71 => ?_) (fun hb71 => ?_)
 ·replace hp := cond_t hb71 hp
  refine wq <| wr <| oa hf rfl rfl fun a hf => oa hf rfl rfl fun a hf => oN <| ct <| wp_ret <| c_thenR ?_
  replace hw : Ok E I2_60 (F) w := hw.sub (sc sr)
  have ho := oI hp
  simp only [Prod.mk.injEq] at ho
  obtain ⟨rfl, rfl⟩ := ho
  exact b_ret2 hf results35 rfl rfl ⟨_, rfl, ⟨I2_60, (Value.slice none 0 0), rfl, hle70, hw, RS.nil⟩⟩
 ·replace hp := cond_f hb71 hp
  refine wp_skip <| ct <| wq <| wr <| om hf rfl rfl fun a hf => oR hf (nC hf rfl) rfl fun a hf => oR hf (rF hf rfl fd_120_3) rfl fun a hf => oR hf (rL hw hf rfl ty_45 0 rfl rfl) rfl fun a hf => oa hf rfl rfl fun a hf => oa hf rfl rfl fun a hf => oN <| ct <| wp_ret ?_
  replace hw : Ok E I2_60 (F) w := hw.sub (sc sr)
  have ho := oI hp
  simp only [Prod.mk.injEq] at ho
  obtain ⟨rfl, rfl⟩ := ho
  exact b_ret2 hf results35 rfl rfl ⟨_, rfl, ⟨I2_60, rvv65, rfl, hle70, hw, hR66⟩⟩

theorem nibble_Good_ok {E : World} {I : IH} {F : List Atom} {w : World} {a0 : ByteArray} {res0 : Bool} (hw : Ok E I (F) w) (hp : nibble_Good.f a0 = some res0) :
  Calls P 87 ⟨[Value.string a0]⟩ w fun e w' => ∃ v, e = .returned v ∧ v = Value.bool res0 ∧ Ok E I (F) w' := by
 refine c_enter func87 rfl ntmps87 rfl fun a hf => ?_
 replace hf : Fr 10 [(0, .string a0)] a := hf
 unfold nibble_Good.f at hp
 refine wq <| wr <| oa hf rfl rfl fun a hf => oN <| ct ?_
 obtain ⟨out16, hp, hq17⟩ := bS hp
 refine c_cut (fun a w => ∃ y15 : Bool, y15 = out16 ∧ Ok E I (F) w ∧ Fr 10 ([(2, .bool y15)]) a) ?_ ?_
 ·refine wr <| om hf rfl rfl fun a hf => oR hf (r_lenS hf und_9 rfl) rfl fun a hf => oR hf (iC hf rfl rfl rfl) rfl fun a hf => om hf rfl rfl fun a hf => g_split hf (g := 6) rfl (fun hb18 hf => ?_) (fun hb18 hf => ?_)
  ·replace hp := cond_t hb18 hp
   refine oW hf (g := 6) rfl rfl <| om hf rfl rfl fun a hf => oW hf (g := 6) rfl rfl ?_
   obtain ⟨y19, hy20, hp⟩ := bS hp
   have hc22 := nibble_small_ok hw hy20
   refine o_call hf cb_98 rfl rfl hc22 (fun v24 w a hK23 hf => ?_)
   obtain ⟨rfl, hw⟩ := hK23
   refine oR hf (pT hf rfl rfl) rfl fun a hf => oa hf rfl rfl fun a hf => oN <| ct ?_
   have ho := oI hp
   subst ho
   exact ⟨y19, rfl, hw, hf.to ⟨rfl, trivial⟩⟩
  ·replace hp := cond_f hb18 hp
   refine oQ hf (g := 6) rfl fun a hf => oQ hf (g := 6) rfl fun a hf => oR hf (pF hf rfl rfl) rfl fun a hf => oa hf rfl rfl fun a hf => oN <| ct ?_
   have ho := oI hp
   subst ho
   exact ⟨false, rfl, hw, hf.to ⟨rfl, trivial⟩⟩
 ·intro a w hM
  obtain ⟨y15, rfl, hw, hf⟩ := hM
  replace hp := hq17
  refine wp_ret ?_
  have ho := oI hp
  subst ho
  exact b_ret1 hf results87 rfl ⟨_, rfl, ⟨rfl, hw⟩⟩

theorem nibble_Pack_ok {E : World} {I : IH} {F : List Atom} {w : World} {a0 : ByteArray} {res0 : ByteArray} {res1 : Bool} (hw : Ok E I (F) w) (hp : nibble_Pack.f a0 = some (res0, res1)) :
  Calls P 64 ⟨[Value.string a0]⟩ w fun e w' => ∃ v, e = .returned v ∧ v = Value.tuple ⟨[Value.string res0, Value.bool res1]⟩ ∧ Ok E I (F) w' := by
 refine c_enter func64 rfl ntmps64 rfl fun a hf => ?_
 replace hf : Fr 15 [(0, .string a0)] a := hf
 unfold nibble_Pack.f at hp
 refine wq <| wr <| oa hf rfl rfl fun a hf => oa hf rfl rfl fun a hf => oN <| ct <| wq <| wq <| wr <| om hf rfl rfl fun a hf => ?_
 obtain ⟨y25, hy26, hp⟩ := bS hp
 have hc28 := nibble_Good_ok hw hy26
 refine o_call hf cb_87 rfl rfl hc28 (fun v30 w a hK29 hf => ?_)
 obtain ⟨rfl, hw⟩ := hK29
 refine oR hf (r_not hf rfl) rfl fun a hf => oN <| ct <| cC hf rfl (fun hb31 => ?_) (fun hb31 => ?_)
 ·replace hp := cond_t hb31 hp
  refine wq <| wr <| oa hf rfl rfl fun a hf => oa hf rfl rfl fun a hf => oN <| ct <| wp_ret <| c_thenR ?_
  have ho := oI hp
  simp only [Prod.mk.injEq] at ho
  obtain ⟨rfl, rfl⟩ := ho
  exact b_ret2 hf results64 rfl rfl ⟨_, rfl, ⟨rfl, hw⟩⟩
 ·replace hp := cond_f hb31 hp
  refine wp_skip <| ct <| wq <| c_drawn mix [] (.rd 0 (.rd 1 (.rd 2 (.rd 5 (.ef2 3 (.ef2 4 (.ef 6 (.rd 7 (.rd 8 (.rd 9 .done)))) 6 (.ef 4 (.rd 7 (.rd 8 (.rd 9 .done))))) 6 (.ef 3 (.ef 4 (.rd 7 (.rd 8 (.rd 9 .done)))))))))) (by kernel_rfl) hw (fun w => Ok E I (F) w) (fun w hw => ⟨hw.sub sr, ?_⟩)
  refine tm rfl hf rfl rfl fun a hf => tR rfl hf (fun w hw => r_lenS hf und_9 rfl) rfl fun a hf => tR rfl hf (fun w hw => r_convI hf und_3 und_5 rfl) rfl fun a hf => tm rfl hf rfl rfl fun a hf => t_ef2 rfl rfl ?_ ?_
  ·obtain ⟨w, v33, hrun34, hw, hRR35⟩ := e_buildSlice (P := P) (K := (ekI .u8)) (m := 1) hw hf (parts := [(0, .tmp 9)]) el_53 ty_5 rfl rfl rfl (ccs := [[Value.int .u8 (wu8 (a0.size : Int))]]) rfl (xs := [wu8 (a0.size : Int)]) ⟨rfl, trivial⟩ rfl
   obtain ⟨cs36, hcs⟩ : ∃ cs, cs = ([[Value.int .u8 (wu8 (a0.size : Int))]] : List (List Value)).flatten := ⟨_, rfl⟩
   rw [← hcs] at hw hRR35; clear hcs
   refine t_eff hf (hrun34 ..) rfl fun a hf => ⟨.inr (hw.back (IH.le_refl _) (sc sr)), ?_⟩
   refine t_ef2 rfl rfl ?_ ?_
   ·refine t_eff hf (r_convB hf und_53 und_5 und_9 rfl (rR (K := (ekI .u8)) hw (i := 0) rfl hRR35)) rfl fun a hf => ⟨.inr (hw.back (IH.le_refl _) (sc sr)), ?_⟩
    refine t_ef rfl ?_
    obtain ⟨y38, hy39, hp⟩ := bS hp
    have hc41 := nibble_two_ok hw hy39
    refine t_call hf cb_88 rfl rfl hc41 (fun v43 w a hK42 hf => ?_)
    obtain ⟨rfl, hw⟩ := hK42
    refine ⟨.inr (hw.back (IH.le_refl _) (sc sr)), ?_⟩
    obtain ⟨hg44, hp⟩ := gS hp
    refine tR rfl hf (fun w hw => r_sadd hf rfl rfl hg44) rfl fun a hf => tR rfl hf (fun w hw => r_assign hf rfl) rfl fun a hf => tR rfl hf (fun w hw => r_assign hf rfl) rfl fun a hf => t_done <| ct <| wp_ret ?_
    replace hw : Ok E I (F) w := hw.sub (sc sr)
    have ho := oI hp
    simp only [Prod.mk.injEq] at ho
    obtain ⟨rfl, rfl⟩ := ho
    exact b_ret2 hf results64 rfl rfl ⟨_, rfl, ⟨rfl, hw⟩⟩
   ·obtain ⟨y45, hy46, hp⟩ := bS hp
    have hc48 := nibble_two_ok hw hy46
    refine t_call hf cb_88 rfl rfl hc48 (fun v50 w a hK49 hf => ?_)
    obtain ⟨rfl, hw⟩ := hK49
    refine ⟨.inr (hw.back (IH.le_refl _) (sc sr)), ?_⟩
    refine t_ef rfl <| t_eff hf (r_convB hf und_53 und_5 und_9 rfl (rR (K := (ekI .u8)) hw (i := 0) rfl hRR35)) rfl fun a hf => ⟨.inr (hw.back (IH.le_refl _) (sc sr)), ?_⟩
    obtain ⟨hg51, hp⟩ := gS hp
    refine tR rfl hf (fun w hw => r_sadd hf rfl rfl hg51) rfl fun a hf => tR rfl hf (fun w hw => r_assign hf rfl) rfl fun a hf => tR rfl hf (fun w hw => r_assign hf rfl) rfl fun a hf => t_done <| ct <| wp_ret ?_
    replace hw : Ok E I (F) w := hw.sub (sc sr)
    have ho := oI hp
    simp only [Prod.mk.injEq] at ho
    obtain ⟨rfl, rfl⟩ := ho
    exact b_ret2 hf results64 rfl rfl ⟨_, rfl, ⟨rfl, hw⟩⟩
  ·obtain ⟨y52, hy53, hp⟩ := bS hp
   have hc55 := nibble_two_ok hw hy53
   refine t_call hf cb_88 rfl rfl hc55 (fun v57 w a hK56 hf => ?_)
   obtain ⟨rfl, hw⟩ := hK56
   refine ⟨.inr (hw.back (IH.le_refl _) sr), ?_⟩
   refine t_ef rfl ?_
   obtain ⟨w, v58, hrun59, hw, hRR60⟩ := e_buildSlice (P := P) (K := (ekI .u8)) (m := 1) hw hf (parts := [(0, .tmp 9)]) el_53 ty_5 rfl rfl rfl (ccs := [[Value.int .u8 (wu8 (a0.size : Int))]]) rfl (xs := [wu8 (a0.size : Int)]) ⟨rfl, trivial⟩ rfl
   obtain ⟨cs61, hcs⟩ : ∃ cs, cs = ([[Value.int .u8 (wu8 (a0.size : Int))]] : List (List Value)).flatten := ⟨_, rfl⟩
   rw [← hcs] at hw hRR60; clear hcs
   refine t_eff hf (hrun59 ..) rfl fun a hf => ⟨.inr (hw.back (IH.le_refl _) (sc sr)), ?_⟩
   refine t_ef rfl <| t_eff hf (r_convB hf und_53 und_5 und_9 rfl (rR (K := (ekI .u8)) hw (i := 0) rfl hRR60)) rfl fun a hf => ⟨.inr (hw.back (IH.le_refl _) (sc sr)), ?_⟩
   obtain ⟨hg63, hp⟩ := gS hp
   refine tR rfl hf (fun w hw => r_sadd hf rfl rfl hg63) rfl fun a hf => tR rfl hf (fun w hw => r_assign hf rfl) rfl fun a hf => tR rfl hf (fun w hw => r_assign hf rfl) rfl fun a hf => t_done <| ct <| wp_ret ?_
   replace hw : Ok E I (F) w := hw.sub (sc sr)
   have ho := oI hp
   simp only [Prod.mk.injEq] at ho
   obtain ⟨rfl, rfl⟩ := ho
   exact b_ret2 hf results64 rfl rfl ⟨_, rfl, ⟨rfl, hw⟩⟩

theorem pack_size_ok {E : World} {I : IH} {F : List Atom} {w : World} {a0 : Node} {res0 : Int} (hw : Ok E I (F) w) (hp : pack_size.f a0 = some res0) :
  Calls P 41 ⟨[Value.agg ⟨Value.int .i64 a0.kind_ :: Value.string a0.path_ :: Value.bool a0.has_ :: Value.string a0.value_ :: arrC .i64 a0.kids_⟩]⟩ w fun e w' => ∃ v, e = .returned v ∧ v = Value.int .i64 res0 ∧ Ok E I (F) w' := by
 refine c_enter func41 rfl ntmps41 rfl fun a hf => ?_
 replace hf : Fr 51 [(0, Value.agg ⟨.int .i64 a0.kind_ :: .string a0.path_ :: .bool a0.has_ :: .string a0.value_ :: arrC .i64 a0.kids_⟩)] a := hf
 unfold pack_size.f at hp
 refine wq <| wr ?_
 obtain ⟨b1, w, hrun2, hw⟩ := e_box (P := P) hw hf (e := 51) (x := .tmp 0) rfl (cs := (Value.int .i64 a0.kind_ :: Value.string a0.path_ :: Value.bool a0.has_ :: Value.string a0.value_ :: arrC .i64 a0.kids_)) rfl
 refine o_eff hf (hrun2 ..) rfl fun a hf => oa hf rfl rfl fun a hf => oN <| ct <| wq <| wq <| wr <| oR hf (rF hf rfl fd_51_0) rfl fun a hf => oR hf (rL hw hf rfl ty_3 0 rfl rfl) rfl fun a hf => oR hf (iC hf rfl rfl rfl) rfl fun a hf => oN <| ct <| cC hf rfl (fun hb4 => ?_) (fun hb4 => ?_)
 ·replace hp := cond_t hb4 hp
  refine wq <| wr <| oa hf rfl rfl fun a hf => oN <| ct ?_
  obtain ⟨out8, hp, hq9⟩ := bS hp
  refine c_cut (fun a w => ∃ y7 : Int, y7 = out8 ∧ Ok E I (.blk b1 (.cells ⟨.int .i64 a0.kind_ :: .string a0.path_ :: .bool a0.has_ :: .string a0.value_ :: arrC .i64 a0.kids_⟩ 51 (0, 0)) :: F) w ∧ Fr 51 ([(1, .pointer (some ⟨b1, 0, none⟩)), (3, .int .i64 y7)]) a) ?_ ?_
  ·refine wq <| wr <| oR hf (rF hf rfl fd_51_2) rfl fun a hf => oR hf (rL hw hf rfl ty_4 0 rfl rfl) rfl fun a hf => oN <| ct <| cC hf rfl (fun hb10 => ?_) (fun hb10 => ?_)
   ·replace hp := cond_t hb10 hp
    refine wr <| om hf rfl rfl fun a hf => oR hf (rF hf rfl fd_51_3) rfl fun a hf => oR hf (rL hw hf rfl ty_9 0 rfl rfl) rfl fun a hf => oR hf (r_lenS hf und_9 rfl) rfl fun a hf => oR hf (r_add hf rfl rfl) rfl fun a hf => oR hf (r_add hf rfl rfl) rfl fun a hf => oa hf rfl rfl fun a hf => oN <| ct ?_
    have ho := oI hp
    subst ho
    exact ⟨(w64 (4 + (w64 (1 + (a0.value_.size : Int))))), rfl, hw, hf.to ⟨rfl, rfl, trivial⟩⟩
   ·replace hp := cond_f hb10 hp
    refine wp_skip <| ct ?_
    have ho := oI hp
    subst ho
    exact ⟨4, rfl, hw, hf.to ⟨rfl, rfl, trivial⟩⟩
  ·intro a w hM
   obtain ⟨y7, rfl, hw, hf⟩ := hM
   replace hp := hq9
   refine wq <| wq <| wr <| oR hf (rF hf rfl fd_51_4) rfl fun a hf => oR hf (r_loadA hw hf rfl ty_49 0 rfl (vs := (arrC .i64 a0.kids_)) (take_all (by simp [arrC_len])) (by simp [arrC_len])) rfl fun a hf => om hf rfl rfl fun a hf => oN <| ct ?_
   obtain ⟨out46, hp, hq47⟩ := bS hp
   refine c_cutX (fun a w => ∃ y45 : Int, y45 = out46 ∧ Ok E I (.blk b1 (.cells ⟨.int .i64 a0.kind_ :: .string a0.path_ :: .bool a0.has_ :: .string a0.value_ :: arrC .i64 a0.kids_⟩ 51 (0, 0)) :: F) w ∧ Fr 51 ([(3, .int .i64 y45)]) a) ?_ ?_
   ·refine wp_block <| c_loop <| c_fuel (pack_size.l0 a0) out46 (fun (y33, y34) a w => Ok E I (.blk b1 (.cells ⟨.int .i64 a0.kind_ :: .string a0.path_ :: .bool a0.has_ :: .string a0.value_ :: arrC .i64 a0.kids_⟩ 51 (0, 0)) :: F) w ∧ Fr 51 ([(3, .int .i64 y34), (20, Value.agg ⟨arrC .i64 a0.kids_⟩), (21, .int .i64 y33)]) a) (fun _ => rfl) ?_ BIG (0, y7) _ _ ⟨hw, hf.to ⟨rfl, rfl, rfl, trivial⟩⟩ hp
    intro k st a w hI hp ih
    obtain ⟨y33, y34⟩ := st
    obtain ⟨hw, hf⟩ := hI
    rw [pack_size.l0] at hp
    refine wq <| wr <| oR hf (iC hf rfl rfl rfl) rfl fun a hf => oN <| ct <| wq <| cC hf rfl (fun hb49 => ?_) (fun hb49 => ?_)
    ·replace hp := cond_t hb49 hp
     refine wp_skip <| ct ?_
     obtain ⟨out55, hp, hq56⟩ := bS hp
     refine c_cut (fun a w => ∃ y54 : Int, y54 = out55 ∧ Ok E I (.blk b1 (.cells ⟨.int .i64 a0.kind_ :: .string a0.path_ :: .bool a0.has_ :: .string a0.value_ :: arrC .i64 a0.kids_⟩ 51 (0, 0)) :: F) w ∧ Fr 51 ([(3, .int .i64 y54), (20, Value.agg ⟨arrC .i64 a0.kids_⟩), (21, .int .i64 y33)]) a) ?_ ?_
     ·refine wp_block <| wq <| wr ?_
      obtain ⟨hg57, hp⟩ := gS hp
      refine oR hf (r_indexArr hf el_49 ty_3 rfl rfl hg57) rfl fun a hf => oa hf rfl rfl fun a hf => oN <| ct <| wq <| wr <| om hf rfl rfl fun a hf => oR hf (iC hf rfl rfl rfl) rfl fun a hf => oN <| ct <| cC hf rfl (fun hb58 => ?_) (fun hb58 => ?_)
      ·replace hp := cond_t hb58 hp
       refine wr <| om hf rfl rfl fun a hf => oR hf (r_add hf rfl rfl) rfl fun a hf => oa hf rfl rfl fun a hf => oN <| c_blockN <| ct ?_
       have ho := oI hp
       subst ho
       exact ⟨(w64 (y34 + 3)), rfl, hw, hf.to ⟨rfl, rfl, rfl, trivial⟩⟩
      ·replace hp := cond_f hb58 hp
       refine wp_skip <| c_blockN <| ct ?_
       have ho := oI hp
       subst ho
       exact ⟨y34, rfl, hw, hf.to ⟨rfl, rfl, rfl, trivial⟩⟩
     ·intro a w hM
      obtain ⟨y54, rfl, hw, hf⟩ := hM
      replace hp := hq56
      refine wr <| oR hf (r_add hf rfl rfl) rfl fun a hf => om hf rfl rfl fun a hf => oN <| ct ?_
      exact ih (w64 (y33 + 1), y54) _ _ ⟨hw, hf.to ⟨rfl, rfl, rfl, trivial⟩⟩ hp
    ·replace hp := cond_f hb49 hp
     refine wp_exit <| c_thenE <| c_thenE <| c_exit <| ct ?_
     have ho := oI hp
     subst ho
     exact ⟨y34, rfl, hw, hf.to ⟨rfl, trivial⟩⟩
   ·intro a w hM
    obtain ⟨y45, rfl, hw, hf⟩ := hM
    replace hp := hq47
    refine ct <| wq <| wr <| om hf rfl rfl fun a hf => oa hf rfl rfl fun a hf => oN <| ct <| wp_ret <| c_thenR ?_
    replace hw : Ok E I (F) w := hw.sub (sc sr)
    have ho := oI hp
    subst ho
    exact b_ret1 hf results41 rfl ⟨_, rfl, ⟨rfl, hw⟩⟩
 ·replace hp := cond_f hb4 hp
  refine wp_skip <| ct <| wq <| wr <| oR hf (rF hf rfl fd_51_1) rfl fun a hf => oR hf (rL hw hf rfl ty_9 0 rfl rfl) rfl fun a hf => ?_
  obtain ⟨y67, hy66, hp⟩ := bS hp
  obtain ⟨y64, y65⟩ := y67
  have hc68 := nibble_Pack_ok hw hy66
  refine o_call hf cb_64 rfl rfl hc68 (fun v70 w a hK69 hf => ?_)
  obtain ⟨rfl, hw⟩ := hK69
  refine om hf rfl rfl fun a hf => oR hf (rE hf rfl rfl) rfl fun a hf => oR hf (rE hf rfl rfl) rfl fun a hf => oa hf rfl rfl fun a hf => oa hf rfl rfl fun a hf => oN <| ct <| wq <| wq <| wr <| oR hf (rF hf rfl fd_51_0) rfl fun a hf => oR hf (rL hw hf rfl ty_3 0 rfl rfl) rfl fun a hf => oR hf (iC hf rfl rfl rfl) rfl fun a hf => oN <| ct <| cC hf rfl (fun hb71 => ?_) (fun hb71 => ?_)
  ·replace hp := cond_t hb71 hp
   refine wq <| wr <| om hf rfl rfl fun a hf => oR hf (r_lenS hf und_9 rfl) rfl fun a hf => oR hf (r_add hf rfl rfl) rfl fun a hf => oR hf (r_add hf rfl rfl) rfl fun a hf => oa hf rfl rfl fun a hf => oN <| ct <| wp_ret <| c_thenR ?_
   replace hw : Ok E I (F) w := hw.sub (sc sr)
   have ho := oI hp
   subst ho
   exact b_ret1 hf results41 rfl ⟨_, rfl, ⟨rfl, hw⟩⟩
  ·replace hp := cond_f hb71 hp
   refine wp_skip <| ct <| wq <| wr <| om hf rfl rfl fun a hf => oR hf (r_lenS hf und_9 rfl) rfl fun a hf => oR hf (r_add hf rfl rfl) rfl fun a hf => oR hf (r_add hf rfl rfl) rfl fun a hf => oR hf (rF hf rfl fd_51_3) rfl fun a hf => oR hf (rL hw hf rfl ty_9 0 rfl rfl) rfl fun a hf => oR hf (r_lenS hf und_9 rfl) rfl fun a hf => oR hf (r_add hf rfl rfl) rfl fun a hf => oa hf rfl rfl fun a hf => oN <| ct <| wp_ret ?_
   replace hw : Ok E I (F) w := hw.sub (sc sr)
   have ho := oI hp
   subst ho
   exact b_ret1 hf results41 rfl ⟨_, rfl, ⟨rfl, hw⟩⟩
end Go.Lf
