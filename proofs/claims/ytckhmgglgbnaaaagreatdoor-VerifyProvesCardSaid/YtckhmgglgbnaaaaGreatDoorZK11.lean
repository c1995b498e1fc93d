import Derived.Test.YtckhmgglgbnaaaaGreatDoorZD
import Derived.Test.YtckhmgglgbnaaaaGreatDoorZF
import Derived.Test.YtckhmgglgbnaaaaGreatDoorJ
import Derived.Test.YtckhmgglgbnaaaaGreatDoorUB
import Derived.Test.YtckhmgglgbnaaaaGreatDoorZK10
set_option linter.unusedVariables false
set_option linter.unusedSimpArgs false
set_option maxHeartbeats 1000000
set_option maxRecDepth 20000
namespace Go.Lf
open Go Go.Proofs.Tryz
theorem digest_schedule_ok {E : World} {I : IH} {F : List Atom} {w : World} {a0 : Vector Int 64} {res0 : Vector Int 64} (hw : Ok E I (F) w) (hG : Gl I) (hp : digest_schedule.f a0 = some res0) :
  Calls P 138 ⟨[Value.agg ⟨arrC .u8 a0⟩]⟩ w fun e w' => ∃ v, e = .returned v ∧ v = Value.agg ⟨arrC .u32 res0⟩ ∧ Ok E I (F) w' := by
 refine c_enter func138 rfl ntmps138 rfl fun a hf => ?_
 replace hf : Fr 67 [(0, Value.agg ⟨arrC .u8 a0⟩)] a := hf
 unfold digest_schedule.f at hp
 refine wq <| wr ?_
 obtain ⟨b1, w, hrun2, hw⟩ := e_box (P := P) hw hf (e := 207) (x := .tmp 0) rfl (cs := (arrC .u8 a0)) rfl
 refine o_eff hf (hrun2 ..) rfl fun a hf => ?_
 obtain ⟨b4, w, hrun5, hw⟩ := e_alloc (P := P) (a := a) hw ty_165
 refine o_eff hf (hrun5 ..) rfl fun a hf => oN <| ct <| wq <| wr ?_
 obtain ⟨b7, w, hrun8, hw⟩ := e_alloc (P := P) (a := a) hw ty_165
 refine o_eff hf (hrun8 ..) rfl fun a hf => oN <| ct <| wq <| wq <| wr <| om hf rfl rfl fun a hf => oN <| ct ?_
 obtain ⟨out33, hp, hq34⟩ := bS hp
 refine c_cutX (fun a w => ∃ y32 : Vector Int 64, y32 = out33 ∧ Ok E I (.blk b7 (.cells ⟨arrC .u32 y32⟩ 165 (0, 0)) :: .blk b4 (.cells ⟨arrC .u32 (Vector.replicate 64 0 : Vector Int 64)⟩ 165 (0, 0)) :: .blk b1 (.cells ⟨arrC .u8 a0⟩ 207 (0, 0)) :: F) w ∧ Fr 67 ([(2, .pointer (some ⟨b4, 0, none⟩)), (3, .pointer (some ⟨b7, 0, none⟩))]) a) ?_ ?_
 ·refine wp_block <| c_loop <| c_fuel (digest_schedule.l0 a0) out33 (fun (y24, y25) a w => Ok E I (.blk b7 (.cells ⟨arrC .u32 y24⟩ 165 (0, 0)) :: .blk b4 (.cells ⟨arrC .u32 (Vector.replicate 64 0 : Vector Int 64)⟩ 165 (0, 0)) :: .blk b1 (.cells ⟨arrC .u8 a0⟩ 207 (0, 0)) :: F) w ∧ Fr 67 ([(1, .pointer (some ⟨b1, 0, none⟩)), (2, .pointer (some ⟨b4, 0, none⟩)), (3, .pointer (some ⟨b7, 0, none⟩)), (8, .int .i64 y25)]) a) (fun _ => rfl) ?_ BIG ((Vector.replicate 64 0 : Vector Int 64), 0) _ _ ⟨hw, hf.to ⟨rfl, rfl, rfl, rfl, trivial⟩⟩ hp
  intro k st a w hI hp ih
  obtain ⟨y24, y25⟩ := st
  obtain ⟨hw, hf⟩ := hI
  rw [digest_schedule.l0] at hp
  refine wq <| wr <| oR hf (iC hf rfl rfl rfl) rfl fun a hf => oN <| ct <| wq <| cC hf rfl (fun hb36 => ?_) (fun hb36 => ?_)
  ·replace hp := cond_t hb36 hp
   refine wp_skip <| ct <| wq <| wp_block <| wq <| wr <| om hf rfl rfl fun a hf => oa hf rfl rfl fun a hf => oN <| ct <| c_drawn mix [13] (.rd 0 (.rd 1 (.rd 2 (.rd 3 (.rd 4 (.rd 5 (.rd 6 (.rd 7 (.rd 8 (.rd 9 (.rd 10 (.rd 11 (.rd 12 (.ef 13 .done)))))))))))))) (by kernel_rfl) hw (fun w => Ok E I (.blk b7 (.cells ⟨arrC .u32 y24⟩ 165 (0, 0)) :: .blk b4 (.cells ⟨arrC .u32 (Vector.replicate 64 0 : Vector Int 64)⟩ 165 (0, 0)) :: .blk b1 (.cells ⟨arrC .u8 a0⟩ 207 (0, 0)) :: F) w) (fun w hw => ⟨hw.sub (scc (scc (scc sr))), ?_⟩)
   refine tm rfl hf rfl rfl fun a hf => tR rfl hf (fun w hw => r_quo hf rfl rfl (by decide)) rfl fun a hf => tm rfl hf rfl rfl fun a hf => tR rfl hf (fun w hw => r_quo hf rfl rfl (by decide)) rfl fun a hf => ?_
   obtain ⟨hg38, hp⟩ := gS hp
   refine tR rfl hf (fun w hw => r_indexAddrA hf el_165 rfl rfl hg38) rfl fun a hf => tR rfl hf (fun w hw => rL hw hf rfl ty_109 0 rfl (arr_at (k := .u32) (v := y24) rfl hg38)) rfl fun a hf => tR rfl hf (fun w hw => r_shl hf rfl rfl (by decide)) rfl fun a hf => tm rfl hf rfl rfl fun a hf => ?_
   obtain ⟨hg39, hp⟩ := gS hp
   refine tR rfl hf (fun w hw => r_indexAddrA hf el_207 rfl rfl hg39) rfl fun a hf => tR rfl hf (fun w hw => rL hw hf rfl ty_5 2 rfl (arr_at (k := .u8) (v := a0) rfl hg39)) rfl fun a hf => tR rfl hf (fun w hw => r_convI hf und_5 und_109 rfl) rfl fun a hf => tR rfl hf (fun w hw => r_or hf rfl rfl) rfl fun a hf => ?_
   obtain ⟨hg40, hp⟩ := gS hp
   refine tR rfl hf (fun w hw => r_indexAddrA hf el_165 rfl rfl hg40) rfl fun a hf => t_ef rfl ?_
   obtain ⟨w, hrun41, hw⟩ := e_store (P := P) hw hf (x := .tmp 23) (y := .tmp 22) rfl rfl ty_109 0 rfl (vs := [.int .u32 (bor .u32 (shl .u32 (vg y24 (w64 (y25.tdiv 4))) 8) (wu32 (vg a0 y25)))]) rfl rfl (oC rfl ones_nil) (by first | (simp [arrC_len] <;> omega) | (have h := hg40; try (simp only [w64, wu8, wu16, wu32, wu64] at h); simp only [List.length_cons, arrC_len]; omega)) (cs' := (arrC .u32 (vset y24 (w64 (y25.tdiv 4)) (bor .u32 (shl .u32 (vg y24 (w64 (y25.tdiv 4))) 8) (wu32 (vg a0 y25)))))) (arr_store (pre := ([] : List Value)) (v := y24) rfl rfl rfl hg40)
   dsimp only [List.set] at hw
   refine t_effU (hrun41 ..) ⟨.inl rfl, ?_⟩
   refine t_done <| c_blockN <| ct <| wr <| oR hf (r_add hf rfl rfl) rfl fun a hf => om hf rfl rfl fun a hf => oN <| ct ?_
   exact ih (vset y24 (w64 (y25.tdiv 4)) (bor .u32 (shl .u32 (vg y24 (w64 (y25.tdiv 4))) 8) (wu32 (vg a0 y25))), w64 (y25 + 1)) _ _ ⟨hw, hf.to ⟨rfl, rfl, rfl, rfl, trivial⟩⟩ hp
  ·replace hp := cond_f hb36 hp
   refine wp_exit <| c_thenE <| c_thenE <| c_exit <| ct ?_
   have ho := oI hp
   subst ho
   exact ⟨y24, rfl, hw, hf.to ⟨rfl, rfl, trivial⟩⟩
 ·intro a w hM
  obtain ⟨y32, rfl, hw, hf⟩ := hM
  replace hp := hq34
  refine ct <| wq <| wq <| wr <| oa hf rfl rfl fun a hf => oN <| ct ?_
  obtain ⟨out106, hp, hq107⟩ := bS hp
  refine c_cutX (fun a w => ∃ y105 : Vector Int 64, y105 = out106 ∧ Ok E I (.blk b7 (.cells ⟨arrC .u32 y105⟩ 165 (0, 0)) :: .blk b4 (.cells ⟨arrC .u32 (Vector.replicate 64 0 : Vector Int 64)⟩ 165 (0, 0)) :: .blk b1 (.cells ⟨arrC .u8 a0⟩ 207 (0, 0)) :: F) w ∧ Fr 67 ([(2, .pointer (some ⟨b4, 0, none⟩)), (3, .pointer (some ⟨b7, 0, none⟩))]) a) ?_ ?_
  ·refine wp_block <| c_loop <| c_fuel (digest_schedule.l1) out106 (fun (y70, y71) a w => Ok E I (.blk b7 (.cells ⟨arrC .u32 y70⟩ 165 (0, 0)) :: .blk b4 (.cells ⟨arrC .u32 (Vector.replicate 64 0 : Vector Int 64)⟩ 165 (0, 0)) :: .blk b1 (.cells ⟨arrC .u8 a0⟩ 207 (0, 0)) :: F) w ∧ Fr 67 ([(2, .pointer (some ⟨b4, 0, none⟩)), (3, .pointer (some ⟨b7, 0, none⟩)), (5, .int .i64 y71)]) a) (fun _ => rfl) ?_ BIG (y32, 16) _ _ ⟨hw, hf.to ⟨rfl, rfl, rfl, trivial⟩⟩ hp
   intro k st a w hI hp ih
   obtain ⟨y70, y71⟩ := st
   obtain ⟨hw, hf⟩ := hI
   rw [digest_schedule.l1] at hp
   refine wq <| wq <| wr <| om hf rfl rfl fun a hf => oR hf (iC hf rfl rfl rfl) rfl fun a hf => oN <| ct <| cC hf rfl (fun hb109 => ?_) (fun hb109 => ?_)
   ·replace hp := cond_t hb109 hp
    refine wp_skip <| ct <| wq <| wp_block <| wq <| c_drawn mix [] (.rd 0 (.rd 1 (.rd 2 (.rd 3 (.rd 4 (.rd 5 (.rd 6 (.rd 7 (.rd 8 (.rd 9 .done)))))))))) (by kernel_rfl) hw (fun w => Ok E I (.blk b7 (.cells ⟨arrC .u32 y70⟩ 165 (0, 0)) :: .blk b4 (.cells ⟨arrC .u32 (Vector.replicate 64 0 : Vector Int 64)⟩ 165 (0, 0)) :: .blk b1 (.cells ⟨arrC .u8 a0⟩ 207 (0, 0)) :: F) w) (fun w hw => ⟨hw.sub (scc (scc (scc sr))), ?_⟩)
    refine tm rfl hf rfl rfl fun a hf => tR rfl hf (fun w hw => r_sub hf rfl rfl) rfl fun a hf => ?_
    obtain ⟨hg111, hp⟩ := gS hp
    refine tR rfl hf (fun w hw => r_indexAddrA hf el_165 rfl rfl hg111) rfl fun a hf => tR rfl hf (fun w hw => rL hw hf rfl ty_109 0 rfl (arr_at (k := .u32) (v := y70) rfl hg111)) rfl fun a hf => tm rfl hf rfl rfl fun a hf => tR rfl hf (fun w hw => r_sub hf rfl rfl) rfl fun a hf => ?_
    obtain ⟨hg112, hp⟩ := gS hp
    refine tR rfl hf (fun w hw => r_indexAddrA hf el_165 rfl rfl hg112) rfl fun a hf => tR rfl hf (fun w hw => rL hw hf rfl ty_109 0 rfl (arr_at (k := .u32) (v := y70) rfl hg112)) rfl fun a hf => tR rfl hf (fun w hw => r_assign hf rfl) rfl fun a hf => tR rfl hf (fun w hw => r_assign hf rfl) rfl fun a hf => t_done <| ct <| c_drawn mix [29] (.rd 0 (.rd 1 (.rd 2 (.rd 3 (.rd 4 (.rd 5 (.rd 6 (.rd 7 (.rd 8 (.rd 9 (.rd 10 (.rd 12 (.rd 15 (.rd 16 (.rd 19 (.rd 21 (.rd 24 (.rd 25 (.ef 11 (.ef 13 (.rd 14 (.rd 17 (.rd 18 (.ef 20 (.ef 22 (.rd 23 (.rd 26 (.rd 27 (.rd 28 (.ef 29 .done)))))))))))))))))))))))))))))) (by kernel_rfl) hw (fun w => Ok E I (.blk b7 (.cells ⟨arrC .u32 y70⟩ 165 (0, 0)) :: .blk b4 (.cells ⟨arrC .u32 (Vector.replicate 64 0 : Vector Int 64)⟩ 165 (0, 0)) :: .blk b1 (.cells ⟨arrC .u8 a0⟩ 207 (0, 0)) :: F) w) (fun w hw => ⟨hw.sub (scc (scc (scc sr))), ?_⟩)
    refine tm rfl hf rfl rfl fun a hf => tm rfl hf rfl rfl fun a hf => tR rfl hf (fun w hw => r_sub hf rfl rfl) rfl fun a hf => ?_
    obtain ⟨hg114, hp⟩ := gS hp
    refine tR rfl hf (fun w hw => r_indexAddrA hf el_165 rfl rfl hg114) rfl fun a hf => tR rfl hf (fun w hw => rL hw hf rfl ty_109 0 rfl (arr_at (k := .u32) (v := y70) rfl hg114)) rfl fun a hf => tm rfl hf rfl rfl fun a hf => tR rfl hf (fun w hw => r_sub hf rfl rfl) rfl fun a hf => ?_
    obtain ⟨hg115, hp⟩ := gS hp
    refine tR rfl hf (fun w hw => r_indexAddrA hf el_165 rfl rfl hg115) rfl fun a hf => tR rfl hf (fun w hw => rL hw hf rfl ty_109 0 rfl (arr_at (k := .u32) (v := y70) rfl hg115)) rfl fun a hf => tR rfl hf (fun w hw => r_add hf rfl rfl) rfl fun a hf => tm rfl hf rfl rfl fun a hf => tm rfl hf rfl rfl fun a hf => tm rfl hf rfl rfl fun a hf => tR rfl hf (fun w hw => r_shr hf rfl rfl (by decide)) rfl fun a hf => tm rfl hf rfl rfl fun a hf => tm rfl hf rfl rfl fun a hf => tm rfl hf rfl rfl fun a hf => tR rfl hf (fun w hw => r_shr hf rfl rfl (by decide)) rfl fun a hf => t_ef rfl ?_
    obtain ⟨y116, hy117, hp⟩ := bS hp
    have hc119 := digest_turned_ok hw hG hy117
    refine t_call hf cb_139 rfl rfl hc119 (fun v121 w a hK120 hf => ?_)
    obtain ⟨rfl, hw⟩ := hK120
    refine ⟨.inr (hw.back (IH.le_refl _) (scc (scc (scc sr)))), ?_⟩
    refine t_ef rfl ?_
    obtain ⟨y122, hy123, hp⟩ := bS hp
    have hc125 := digest_turned_ok hw hG hy123
    refine t_call hf cb_139 rfl rfl hc125 (fun v127 w a hK126 hf => ?_)
    obtain ⟨rfl, hw⟩ := hK126
    refine ⟨.inr (hw.back (IH.le_refl _) (scc (scc (scc sr)))), ?_⟩
    refine tR rfl hf (fun w hw => r_xor hf rfl rfl) rfl fun a hf => tR rfl hf (fun w hw => r_xor hf rfl rfl) rfl fun a hf => tR rfl hf (fun w hw => r_add hf rfl rfl) rfl fun a hf => t_ef rfl ?_
    obtain ⟨y128, hy129, hp⟩ := bS hp
    have hc131 := digest_turned_ok hw hG hy129
    refine t_call hf cb_139 rfl rfl hc131 (fun v133 w a hK132 hf => ?_)
    obtain ⟨rfl, hw⟩ := hK132
    refine ⟨.inr (hw.back (IH.le_refl _) (scc (scc (scc sr)))), ?_⟩
    refine t_ef rfl ?_
    obtain ⟨y134, hy135, hp⟩ := bS hp
    have hc137 := digest_turned_ok hw hG hy135
    refine t_call hf cb_139 rfl rfl hc137 (fun v139 w a hK138 hf => ?_)
    obtain ⟨rfl, hw⟩ := hK138
    refine ⟨.inr (hw.back (IH.le_refl _) (scc (scc (scc sr)))), ?_⟩
    refine tR rfl hf (fun w hw => r_xor hf rfl rfl) rfl fun a hf => tR rfl hf (fun w hw => r_xor hf rfl rfl) rfl fun a hf => tR rfl hf (fun w hw => r_add hf rfl rfl) rfl fun a hf => ?_
    obtain ⟨hg140, hp⟩ := gS hp
    refine tR rfl hf (fun w hw => r_indexAddrA hf el_165 rfl rfl hg140) rfl fun a hf => t_ef rfl ?_
    obtain ⟨w, hrun141, hw⟩ := e_store (P := P) hw hf (x := .tmp 65) (y := .tmp 64) rfl rfl ty_109 0 rfl (vs := [.int .u32 (wu32 ((wu32 ((wu32 ((vg y70 (w64 (y71 - 16))) + (vg y70 (w64 (y71 - 7))))) + (bxor .u32 (bxor .u32 y116 y122) (shr .u32 (vg y70 (w64 (y71 - 15))) 3)))) + (bxor .u32 (bxor .u32 y128 y134) (shr .u32 (vg y70 (w64 (y71 - 2))) 10))))]) rfl rfl (oC rfl ones_nil) (by first | (simp [arrC_len] <;> omega) | (have h := hg140; try (simp only [w64, wu8, wu16, wu32, wu64] at h); simp only [List.length_cons, arrC_len]; omega)) (cs' := (arrC .u32 (vset y70 y71 (wu32 ((wu32 ((wu32 ((vg y70 (w64 (y71 - 16))) + (vg y70 (w64 (y71 - 7))))) + (bxor .u32 (bxor .u32 y116 y122) (shr .u32 (vg y70 (w64 (y71 - 15))) 3)))) + (bxor .u32 (bxor .u32 y128 y134) (shr .u32 (vg y70 (w64 (y71 - 2))) 10))))))) (arr_store (pre := ([] : List Value)) (v := y70) rfl rfl rfl hg140)
    dsimp only [List.set] at hw
    refine t_effU (hrun141 ..) ⟨.inl rfl, ?_⟩
    refine t_done <| c_blockN <| ct <| wr <| om hf rfl rfl fun a hf => oR hf (r_add hf rfl rfl) rfl fun a hf => oa hf rfl rfl fun a hf => oN <| ct ?_
    exact ih (vset y70 y71 (wu32 ((wu32 ((wu32 ((vg y70 (w64 (y71 - 16))) + (vg y70 (w64 (y71 - 7))))) + (bxor .u32 (bxor .u32 y116 y122) (shr .u32 (vg y70 (w64 (y71 - 15))) 3)))) + (bxor .u32 (bxor .u32 y128 y134) (shr .u32 (vg y70 (w64 (y71 - 2))) 10)))), w64 (y71 + 1)) _ _ ⟨hw, hf.to ⟨rfl, rfl, rfl, trivial⟩⟩ hp
   ·replace hp := cond_f hb109 hp
    refine wp_exit <| c_thenE <| c_thenE <| c_exit <| ct ?_
    have ho := oI hp
    subst ho
    exact ⟨y70, rfl, hw, hf.to ⟨rfl, rfl, trivial⟩⟩
  ·intro a w hM
   obtain ⟨y105, rfl, hw, hf⟩ := hM
   replace hp := hq107
   refine ct <| wq <| wr <| oR hf (r_loadA hw hf rfl ty_165 0 rfl (vs := (arrC .u32 y105)) (take_all (by simp [arrC_len])) (by simp [arrC_len])) rfl fun a hf => ?_
   obtain ⟨w, hrun143, hw⟩ := e_store (P := P) hw hf (x := .tmp 2) (y := .tmp 66) rfl rfl ty_165 1 rfl (vs := (arrC .u32 y105)) rfl (by simp [arrC_len]) (arrC_one _ _) (by simp [arrC_len]) (cs' := (arrC .u32 y105)) (by simp [arrC_len])
   dsimp only [List.set] at hw
   refine o_effU (hrun143 ..) <| oN <| ct <| wp_ret ?_
   replace hw : Ok E I (.blk b4 (.cells ⟨arrC .u32 y105⟩ 165 (0, 0)) :: F) w := hw.sub (sc (scc (sc sr)))
   have ho := oI hp
   subst ho
   exact b_retC hw hf results138 ty_165 rfl 0 rfl (vs := (arrC .u32 y105)) (take_all (by simp [arrC_len])) (by simp [arrC_len]) ⟨_, rfl, ⟨rfl, hw.tail⟩⟩

theorem digest_Block_ok {E : World} {I : IH} {F : List Atom} {w : World} {a0 : Vector Int 8} {a1 : Vector Int 64} {res0 : Vector Int 8} (hw : Ok E I (F) w) (hG : Gl I) (hp : digest_Block.f a0 a1 = some res0) :
  Calls P 103 ⟨[Value.agg ⟨arrC .u32 a0⟩, Value.agg ⟨arrC .u8 a1⟩]⟩ w fun e w' => ∃ v, e = .returned v ∧ v = Value.agg ⟨arrC .u32 res0⟩ ∧ Ok E I (F) w' := by
 refine c_enter func103 rfl ntmps103 rfl fun a hf => ?_
 replace hf : Fr 115 [(0, Value.agg ⟨arrC .u32 a0⟩), (1, Value.agg ⟨arrC .u8 a1⟩)] a := hf
 unfold digest_Block.f at hp
 refine wq <| wr ?_
 obtain ⟨b1, w, hrun2, hw⟩ := e_box (P := P) hw hf (e := 163) (x := .tmp 0) rfl (cs := (arrC .u32 a0)) rfl
 refine o_eff hf (hrun2 ..) rfl fun a hf => ?_
 obtain ⟨b4, w, hrun5, hw⟩ := e_box (P := P) hw hf (e := 207) (x := .tmp 1) rfl (cs := (arrC .u8 a1)) rfl
 refine o_eff hf (hrun5 ..) rfl fun a hf => ?_
 obtain ⟨b7, w, hrun8, hw⟩ := e_alloc (P := P) (a := a) hw ty_163
 refine o_eff hf (hrun8 ..) rfl fun a hf => oN <| ct <| wq <| wr <| oR hf (r_loadA hw hf rfl ty_207 1 rfl (vs := (arrC .u8 a1)) (take_all (by simp [arrC_len])) (by simp [arrC_len])) rfl fun a hf => ?_
 obtain ⟨y144, hy145, hp⟩ := bS hp
 have hc147 := digest_schedule_ok hw hG hy145
 refine o_call hf cb_138 rfl rfl hc147 (fun v149 w a hK148 hf => ?_)
 obtain ⟨rfl, hw⟩ := hK148
 obtain ⟨b150, w, hrun151, hw⟩ := e_alloc (P := P) (a := a) hw ty_165
 refine o_eff hf (hrun151 ..) rfl fun a hf => ?_
 obtain ⟨w, hrun153, hw⟩ := e_store (P := P) hw hf (x := .tmp 5) (y := .tmp 16) rfl rfl ty_165 0 rfl (vs := (arrC .u32 y144)) rfl (by simp [arrC_len]) (arrC_one _ _) (by simp [arrC_len]) (cs' := (arrC .u32 y144)) (by simp [arrC_len])
 dsimp only [List.set] at hw
 refine o_effU (hrun153 ..) <| oN <| ct <| wq <| wr <| oR hf (r_loadA hw hf rfl ty_163 3 rfl (vs := (arrC .u32 a0)) (take_all (by simp [arrC_len])) (by simp [arrC_len])) rfl fun a hf => ?_
 obtain ⟨b154, w, hrun155, hw⟩ := e_alloc (P := P) (a := a) hw ty_163
 refine o_eff hf (hrun155 ..) rfl fun a hf => ?_
 obtain ⟨w, hrun157, hw⟩ := e_store (P := P) hw hf (x := .tmp 6) (y := .tmp 17) rfl rfl ty_163 0 rfl (vs := (arrC .u32 a0)) rfl (by simp [arrC_len]) (arrC_one _ _) (by simp [arrC_len]) (cs' := (arrC .u32 a0)) (by simp [arrC_len])
 dsimp only [List.set] at hw
 refine o_effU (hrun157 ..) <| oN <| ct <| wq <| wq <| wr <| om hf rfl rfl fun a hf => oN <| ct ?_
 obtain ⟨out340, hp, hq341⟩ := bS hp
 refine c_cutX (fun a w => ∃ y339 : Vector Int 8, y339 = out340 ∧ Ok E I (.blk b154 (.cells ⟨arrC .u32 y339⟩ 163 (0, 0)) :: .blk b150 (.cells ⟨arrC .u32 y144⟩ 165 (0, 0)) :: .blk b7 (.cells ⟨arrC .u32 (Vector.replicate 8 0 : Vector Int 8)⟩ 163 (0, 0)) :: .blk b4 (.cells ⟨arrC .u8 a1⟩ 207 (0, 0)) :: .blk b1 (.cells ⟨arrC .u32 a0⟩ 163 (0, 0)) :: F) w ∧ Fr 115 ([(2, .pointer (some ⟨b1, 0, none⟩)), (4, .pointer (some ⟨b7, 0, none⟩)), (6, .pointer (some ⟨b154, 0, none⟩))]) a) ?_ ?_
 ·refine wp_block <| c_loop <| c_fuel (digest_Block.l0 y144) out340 (fun (y278, y279) a w => Ok E I (.blk b154 (.cells ⟨arrC .u32 y278⟩ 163 (0, 0)) :: .blk b150 (.cells ⟨arrC .u32 y144⟩ 165 (0, 0)) :: .blk b7 (.cells ⟨arrC .u32 (Vector.replicate 8 0 : Vector Int 8)⟩ 163 (0, 0)) :: .blk b4 (.cells ⟨arrC .u8 a1⟩ 207 (0, 0)) :: .blk b1 (.cells ⟨arrC .u32 a0⟩ 163 (0, 0)) :: F) w ∧ Fr 115 ([(2, .pointer (some ⟨b1, 0, none⟩)), (4, .pointer (some ⟨b7, 0, none⟩)), (5, .pointer (some ⟨b150, 0, none⟩)), (6, .pointer (some ⟨b154, 0, none⟩)), (18, .int .i64 y279)]) a) (fun _ => rfl) ?_ BIG (a0, 0) _ _ ⟨hw, hf.to ⟨rfl, rfl, rfl, rfl, rfl, trivial⟩⟩ hp
  intro k st a w hI hp ih
  obtain ⟨y278, y279⟩ := st
  obtain ⟨hw, hf⟩ := hI
  rw [digest_Block.l0] at hp
  refine wq <| wr <| oR hf (iC hf rfl rfl rfl) rfl fun a hf => oN <| ct <| wq <| cC hf rfl (fun hb343 => ?_) (fun hb343 => ?_)
  ·replace hp := cond_t hb343 hp
   refine wp_skip <| ct <| wq <| wp_block <| wq <| wr <| om hf rfl rfl fun a hf => oa hf rfl rfl fun a hf => oN <| ct <| wq <| c_drawn mix [] (.rd 0 (.rd 1 (.rd 2 (.rd 3 (.rd 4 (.rd 5 .done)))))) (by kernel_rfl) hw (fun w => Ok E I (.blk b154 (.cells ⟨arrC .u32 y278⟩ 163 (0, 0)) :: .blk b150 (.cells ⟨arrC .u32 y144⟩ 165 (0, 0)) :: .blk b7 (.cells ⟨arrC .u32 (Vector.replicate 8 0 : Vector Int 8)⟩ 163 (0, 0)) :: .blk b4 (.cells ⟨arrC .u8 a1⟩ 207 (0, 0)) :: .blk b1 (.cells ⟨arrC .u32 a0⟩ 163 (0, 0)) :: F) w) (fun w hw => ⟨hw.sub (scc (scc (scc (scc (scc sr))))), ?_⟩)
   obtain ⟨hg345, hp⟩ := gS hp
   refine tR rfl hf (fun w hw => r_indexAddrA hf el_163 rfl rfl hg345) rfl fun a hf => tR rfl hf (fun w hw => rL hw hf rfl ty_109 0 rfl (arr_at (k := .u32) (v := y278) rfl hg345)) rfl fun a hf => ?_
   obtain ⟨hg346, hp⟩ := gS hp
   refine tR rfl hf (fun w hw => r_indexAddrA hf el_163 rfl rfl hg346) rfl fun a hf => tR rfl hf (fun w hw => rL hw hf rfl ty_109 0 rfl (arr_at (k := .u32) (v := y278) rfl hg346)) rfl fun a hf => tR rfl hf (fun w hw => r_assign hf rfl) rfl fun a hf => tR rfl hf (fun w hw => r_assign hf rfl) rfl fun a hf => t_done <| ct <| wq <| wr <| om hf rfl rfl fun a hf => ?_
   obtain ⟨hg347, hp⟩ := gS hp
   refine oR hf (r_indexAddrA hf el_163 rfl rfl hg347) rfl fun a hf => oR hf (rL hw hf rfl ty_109 0 rfl (arr_at (k := .u32) (v := y278) rfl hg347)) rfl fun a hf => oR hf (r_and hf rfl rfl) rfl fun a hf => om hf rfl rfl fun a hf => oR hf (r_cnot hf rfl) rfl fun a hf => ?_
   obtain ⟨hg348, hp⟩ := gS hp
   refine oR hf (r_indexAddrA hf el_163 rfl rfl hg348) rfl fun a hf => oR hf (rL hw hf rfl ty_109 0 rfl (arr_at (k := .u32) (v := y278) rfl hg348)) rfl fun a hf => oR hf (r_and hf rfl rfl) rfl fun a hf => oR hf (r_xor hf rfl rfl) rfl fun a hf => oa hf rfl rfl fun a hf => oN <| ct <| wq <| wr <| om hf rfl rfl fun a hf => ?_
   obtain ⟨hg349, hp⟩ := gS hp
   refine oR hf (r_indexAddrA hf el_163 rfl rfl hg349) rfl fun a hf => oR hf (rL hw hf rfl ty_109 0 rfl (arr_at (k := .u32) (v := y278) rfl hg349)) rfl fun a hf => oR hf (r_and hf rfl rfl) rfl fun a hf => om hf rfl rfl fun a hf => ?_
   obtain ⟨hg350, hp⟩ := gS hp
   refine oR hf (r_indexAddrA hf el_163 rfl rfl hg350) rfl fun a hf => oR hf (rL hw hf rfl ty_109 0 rfl (arr_at (k := .u32) (v := y278) rfl hg350)) rfl fun a hf => oR hf (r_and hf rfl rfl) rfl fun a hf => oR hf (r_xor hf rfl rfl) rfl fun a hf => ?_
   obtain ⟨hg351, hp⟩ := gS hp
   refine oR hf (r_indexAddrA hf el_163 rfl rfl hg351) rfl fun a hf => oR hf (rL hw hf rfl ty_109 0 rfl (arr_at (k := .u32) (v := y278) rfl hg351)) rfl fun a hf => ?_
   obtain ⟨hg352, hp⟩ := gS hp
   refine oR hf (r_indexAddrA hf el_163 rfl rfl hg352) rfl fun a hf => oR hf (rL hw hf rfl ty_109 0 rfl (arr_at (k := .u32) (v := y278) rfl hg352)) rfl fun a hf => oR hf (r_and hf rfl rfl) rfl fun a hf => oR hf (r_xor hf rfl rfl) rfl fun a hf => oa hf rfl rfl fun a hf => oN <| ct <| wq <| c_drawn mix [] (.rd 0 (.rd 1 (.rd 2 (.rd 4 (.rd 7 (.rd 11 (.rd 13 (.rd 14 (.rd 15 (.rd 17 (.rd 18 (.rd 19 (.ef 3 (.ef 5 (.rd 6 (.ef 8 (.rd 9 (.rd 10 (.rd 12 (.rd 16 (.rd 20 (.rd 21 .done)))))))))))))))))))))) (by kernel_rfl) hw (fun w => Ok E I (.blk b154 (.cells ⟨arrC .u32 y278⟩ 163 (0, 0)) :: .blk b150 (.cells ⟨arrC .u32 y144⟩ 165 (0, 0)) :: .blk b7 (.cells ⟨arrC .u32 (Vector.replicate 8 0 : Vector Int 8)⟩ 163 (0, 0)) :: .blk b4 (.cells ⟨arrC .u8 a1⟩ 207 (0, 0)) :: .blk b1 (.cells ⟨arrC .u32 a0⟩ 163 (0, 0)) :: F) w) (fun w hw => ⟨hw.sub (scc (scc (scc (scc (scc sr))))), ?_⟩)
   obtain ⟨hg354, hp⟩ := gS hp
   refine tR rfl hf (fun w hw => r_indexAddrA hf el_163 rfl rfl hg354) rfl fun a hf => tR rfl hf (fun w hw => rL hw hf rfl ty_109 0 rfl (arr_at (k := .u32) (v := y278) rfl hg354)) rfl fun a hf => tm rfl hf rfl rfl fun a hf => tm rfl hf rfl rfl fun a hf => tm rfl hf rfl rfl fun a hf => tm rfl hf rfl rfl fun a hf => tm rfl hf rfl rfl fun a hf => ?_
   obtain ⟨hg355, hp⟩ := gS hp
   refine tR rfl hf (fun w hw => r_indexAddrA hf el_165 rfl rfl hg355) rfl fun a hf => ?_
   obtain ⟨_, _, hgl356⟩ := hG.g1
   refine tR rfl hf (fun w hw => r_loadG hw hf rfl ty_109 hgl356 (arr_at (k := .u32) (v := glob_1) rfl hg355)) rfl fun a hf => tm rfl hf rfl rfl fun a hf => ?_
   obtain ⟨hg357, hp⟩ := gS hp
   refine tR rfl hf (fun w hw => r_indexAddrA hf el_165 rfl rfl hg357) rfl fun a hf => tR rfl hf (fun w hw => rL hw hf rfl ty_109 1 rfl (arr_at (k := .u32) (v := y144) rfl hg357)) rfl fun a hf => t_ef rfl ?_
   obtain ⟨y358, hy359, hp⟩ := bS hp
   have hc361 := digest_turned_ok hw hG hy359
   refine t_call hf cb_139 rfl rfl hc361 (fun v363 w a hK362 hf => ?_)
   obtain ⟨rfl, hw⟩ := hK362
   refine ⟨.inr (hw.back (IH.le_refl _) (scc (scc (scc (scc (scc sr)))))), ?_⟩
   refine t_ef rfl ?_
   obtain ⟨y364, hy365, hp⟩ := bS hp
   have hc367 := digest_turned_ok hw hG hy365
   refine t_call hf cb_139 rfl rfl hc367 (fun v369 w a hK368 hf => ?_)
   obtain ⟨rfl, hw⟩ := hK368
   refine ⟨.inr (hw.back (IH.le_refl _) (scc (scc (scc (scc (scc sr)))))), ?_⟩
   refine tR rfl hf (fun w hw => r_xor hf rfl rfl) rfl fun a hf => t_ef rfl ?_
   obtain ⟨y370, hy371, hp⟩ := bS hp
   have hc373 := digest_turned_ok hw hG hy371
   refine t_call hf cb_139 rfl rfl hc373 (fun v375 w a hK374 hf => ?_)
   obtain ⟨rfl, hw⟩ := hK374
   refine ⟨.inr (hw.back (IH.le_refl _) (scc (scc (scc (scc (scc sr)))))), ?_⟩
   refine tR rfl hf (fun w hw => r_xor hf rfl rfl) rfl fun a hf => tR rfl hf (fun w hw => r_add hf rfl rfl) rfl fun a hf => tR rfl hf (fun w hw => r_add hf rfl rfl) rfl fun a hf => tR rfl hf (fun w hw => r_add hf rfl rfl) rfl fun a hf => tR rfl hf (fun w hw => r_add hf rfl rfl) rfl fun a hf => tR rfl hf (fun w hw => r_assign hf rfl) rfl fun a hf => t_done <| ct <| wq <| wr <| om hf rfl rfl fun a hf => ?_
   obtain ⟨y376, hy377, hp⟩ := bS hp
   have hc379 := digest_turned_ok hw hG hy377
   refine o_call hf cb_139 rfl rfl hc379 (fun v381 w a hK380 hf => ?_)
   obtain ⟨rfl, hw⟩ := hK380
   refine om hf rfl rfl fun a hf => ?_
   obtain ⟨y382, hy383, hp⟩ := bS hp
   have hc385 := digest_turned_ok hw hG hy383
   refine o_call hf cb_139 rfl rfl hc385 (fun v387 w a hK386 hf => ?_)
   obtain ⟨rfl, hw⟩ := hK386
   refine oR hf (r_xor hf rfl rfl) rfl fun a hf => om hf rfl rfl fun a hf => ?_
   obtain ⟨y388, hy389, hp⟩ := bS hp
   have hc391 := digest_turned_ok hw hG hy389
   refine o_call hf cb_139 rfl rfl hc391 (fun v393 w a hK392 hf => ?_)
   obtain ⟨rfl, hw⟩ := hK392
   refine oR hf (r_xor hf rfl rfl) rfl fun a hf => om hf rfl rfl fun a hf => oR hf (r_add hf rfl rfl) rfl fun a hf => oa hf rfl rfl fun a hf => oN <| ct <| wr <| om hf rfl rfl fun a hf => om hf rfl rfl fun a hf => oR hf (r_add hf rfl rfl) rfl fun a hf => ?_
   obtain ⟨hg394, hp⟩ := gS hp
   refine oR hf (r_indexAddrA hf el_163 rfl rfl hg394) rfl fun a hf => oR hf (rL hw hf rfl ty_109 0 rfl (arr_at (k := .u32) (v := y278) rfl hg394)) rfl fun a hf => ?_
   obtain ⟨hg395, hp⟩ := gS hp
   refine oR hf (r_indexAddrA hf el_163 rfl rfl hg395) rfl fun a hf => oR hf (rL hw hf rfl ty_109 0 rfl (arr_at (k := .u32) (v := y278) rfl hg395)) rfl fun a hf => ?_
   obtain ⟨hg396, hp⟩ := gS hp
   refine oR hf (r_indexAddrA hf el_163 rfl rfl hg396) rfl fun a hf => oR hf (rL hw hf rfl ty_109 0 rfl (arr_at (k := .u32) (v := y278) rfl hg396)) rfl fun a hf => ?_
   obtain ⟨hg397, hp⟩ := gS hp
   refine oR hf (r_indexAddrA hf el_163 rfl rfl hg397) rfl fun a hf => oR hf (rL hw hf rfl ty_109 0 rfl (arr_at (k := .u32) (v := y278) rfl hg397)) rfl fun a hf => om hf rfl rfl fun a hf => oR hf (r_add hf rfl rfl) rfl fun a hf => ?_
   obtain ⟨hg398, hp⟩ := gS hp
   refine oR hf (r_indexAddrA hf el_163 rfl rfl hg398) rfl fun a hf => oR hf (rL hw hf rfl ty_109 0 rfl (arr_at (k := .u32) (v := y278) rfl hg398)) rfl fun a hf => ?_
   obtain ⟨hg399, hp⟩ := gS hp
   refine oR hf (r_indexAddrA hf el_163 rfl rfl hg399) rfl fun a hf => oR hf (rL hw hf rfl ty_109 0 rfl (arr_at (k := .u32) (v := y278) rfl hg399)) rfl fun a hf => ?_
   obtain ⟨hg400, hp⟩ := gS hp
   refine oR hf (r_indexAddrA hf el_163 rfl rfl hg400) rfl fun a hf => oR hf (rL hw hf rfl ty_109 0 rfl (arr_at (k := .u32) (v := y278) rfl hg400)) rfl fun a hf => oR hf (r_buildArr hf el_163 ty_163 rfl rfl rfl (v := (#v[wu32 ((wu32 ((wu32 ((wu32 ((wu32 ((vg y278 7) + (bxor .u32 (bxor .u32 y358 y364) y370))) + (bxor .u32 (band .u32 (vg y278 4) (vg y278 5)) (band .u32 (bxor .u32 (if IntKind.signed .u32 then -1 else IntKind.max .u32) (vg y278 4)) (vg y278 6))))) + (vg glob_1 y279))) + (vg y144 y279))) + (wu32 ((bxor .u32 (bxor .u32 y376 y382) y388) + (bxor .u32 (bxor .u32 (band .u32 (vg y278 0) (vg y278 1)) (band .u32 (vg y278 0) (vg y278 2))) (band .u32 (vg y278 1) (vg y278 2)))))), vg y278 0, vg y278 1, vg y278 2, wu32 ((vg y278 3) + (wu32 ((wu32 ((wu32 ((wu32 ((vg y278 7) + (bxor .u32 (bxor .u32 y358 y364) y370))) + (bxor .u32 (band .u32 (vg y278 4) (vg y278 5)) (band .u32 (bxor .u32 (if IntKind.signed .u32 then -1 else IntKind.max .u32) (vg y278 4)) (vg y278 6))))) + (vg glob_1 y279))) + (vg y144 y279)))), vg y278 4, vg y278 5, vg y278 6] : Vector Int 8)) rfl) rfl fun a hf => ?_
   obtain ⟨w, hrun401, hw⟩ := e_store (P := P) hw hf (x := .tmp 6) (y := .tmp 100) rfl rfl ty_163 0 rfl (vs := (arrC .u32 (#v[wu32 ((wu32 ((wu32 ((wu32 ((wu32 ((vg y278 7) + (bxor .u32 (bxor .u32 y358 y364) y370))) + (bxor .u32 (band .u32 (vg y278 4) (vg y278 5)) (band .u32 (bxor .u32 (if IntKind.signed .u32 then -1 else IntKind.max .u32) (vg y278 4)) (vg y278 6))))) + (vg glob_1 y279))) + (vg y144 y279))) + (wu32 ((bxor .u32 (bxor .u32 y376 y382) y388) + (bxor .u32 (bxor .u32 (band .u32 (vg y278 0) (vg y278 1)) (band .u32 (vg y278 0) (vg y278 2))) (band .u32 (vg y278 1) (vg y278 2)))))), vg y278 0, vg y278 1, vg y278 2, wu32 ((vg y278 3) + (wu32 ((wu32 ((wu32 ((wu32 ((vg y278 7) + (bxor .u32 (bxor .u32 y358 y364) y370))) + (bxor .u32 (band .u32 (vg y278 4) (vg y278 5)) (band .u32 (bxor .u32 (if IntKind.signed .u32 then -1 else IntKind.max .u32) (vg y278 4)) (vg y278 6))))) + (vg glob_1 y279))) + (vg y144 y279)))), vg y278 4, vg y278 5, vg y278 6] : Vector Int 8))) rfl (by simp [arrC_len]) (arrC_one _ _) (by simp [arrC_len]) (cs' := (arrC .u32 (#v[wu32 ((wu32 ((wu32 ((wu32 ((wu32 ((vg y278 7) + (bxor .u32 (bxor .u32 y358 y364) y370))) + (bxor .u32 (band .u32 (vg y278 4) (vg y278 5)) (band .u32 (bxor .u32 (if IntKind.signed .u32 then -1 else IntKind.max .u32) (vg y278 4)) (vg y278 6))))) + (vg glob_1 y279))) + (vg y144 y279))) + (wu32 ((bxor .u32 (bxor .u32 y376 y382) y388) + (bxor .u32 (bxor .u32 (band .u32 (vg y278 0) (vg y278 1)) (band .u32 (vg y278 0) (vg y278 2))) (band .u32 (vg y278 1) (vg y278 2)))))), vg y278 0, vg y278 1, vg y278 2, wu32 ((vg y278 3) + (wu32 ((wu32 ((wu32 ((wu32 ((vg y278 7) + (bxor .u32 (bxor .u32 y358 y364) y370))) + (bxor .u32 (band .u32 (vg y278 4) (vg y278 5)) (band .u32 (bxor .u32 (if IntKind.signed .u32 then -1 else IntKind.max .u32) (vg y278 4)) (vg y278 6))))) + (vg glob_1 y279))) + (vg y144 y279)))), vg y278 4, vg y278 5, vg y278 6] : Vector Int 8))) (by simp [arrC_len])
   dsimp only [List.set] at hw
   refine o_effU (hrun401 ..) <| oN <| c_blockN <| ct <| wr <| oR hf (r_add hf rfl rfl) rfl fun a hf => om hf rfl rfl fun a hf => oN <| ct ?_
   exact ih ((#v[wu32 ((wu32 ((wu32 ((wu32 ((wu32 ((vg y278 7) + (bxor .u32 (bxor .u32 y358 y364) y370))) + (bxor .u32 (band .u32 (vg y278 4) (vg y278 5)) (band .u32 (bxor .u32 (if IntKind.signed .u32 then -1 else IntKind.max .u32) (vg y278 4)) (vg y278 6))))) + (vg glob_1 y279))) + (vg y144 y279))) + (wu32 ((bxor .u32 (bxor .u32 y376 y382) y388) + (bxor .u32 (bxor .u32 (band .u32 (vg y278 0) (vg y278 1)) (band .u32 (vg y278 0) (vg y278 2))) (band .u32 (vg y278 1) (vg y278 2)))))), vg y278 0, vg y278 1, vg y278 2, wu32 ((vg y278 3) + (wu32 ((wu32 ((wu32 ((wu32 ((vg y278 7) + (bxor .u32 (bxor .u32 y358 y364) y370))) + (bxor .u32 (band .u32 (vg y278 4) (vg y278 5)) (band .u32 (bxor .u32 (if IntKind.signed .u32 then -1 else IntKind.max .u32) (vg y278 4)) (vg y278 6))))) + (vg glob_1 y279))) + (vg y144 y279)))), vg y278 4, vg y278 5, vg y278 6] : Vector Int 8), w64 (y279 + 1)) _ _ ⟨hw, hf.to ⟨rfl, rfl, rfl, rfl, rfl, trivial⟩⟩ hp
  ·replace hp := cond_f hb343 hp
   refine wp_exit <| c_thenE <| c_thenE <| c_exit <| ct ?_
   have ho := oI hp
   subst ho
   exact ⟨y278, rfl, hw, hf.to ⟨rfl, rfl, rfl, trivial⟩⟩
 ·intro a w hM
  obtain ⟨y339, rfl, hw, hf⟩ := hM
  replace hp := hq341
  refine ct <| wq <| wq <| wr <| om hf rfl rfl fun a hf => oN <| ct ?_
  obtain ⟨out426, hp, hq427⟩ := bS hp
  refine c_cutX (fun a w => ∃ y425 : Vector Int 8, y425 = out426 ∧ Ok E I (.blk b154 (.cells ⟨arrC .u32 y339⟩ 163 (0, 0)) :: .blk b150 (.cells ⟨arrC .u32 y144⟩ 165 (0, 0)) :: .blk b7 (.cells ⟨arrC .u32 (Vector.replicate 8 0 : Vector Int 8)⟩ 163 (0, 0)) :: .blk b4 (.cells ⟨arrC .u8 a1⟩ 207 (0, 0)) :: .blk b1 (.cells ⟨arrC .u32 y425⟩ 163 (0, 0)) :: F) w ∧ Fr 115 ([(2, .pointer (some ⟨b1, 0, none⟩)), (4, .pointer (some ⟨b7, 0, none⟩))]) a) ?_ ?_
  ·refine wp_block <| c_loop <| c_fuel (digest_Block.l1 y339) out426 (fun (y417, y418) a w => Ok E I (.blk b154 (.cells ⟨arrC .u32 y339⟩ 163 (0, 0)) :: .blk b150 (.cells ⟨arrC .u32 y144⟩ 165 (0, 0)) :: .blk b7 (.cells ⟨arrC .u32 (Vector.replicate 8 0 : Vector Int 8)⟩ 163 (0, 0)) :: .blk b4 (.cells ⟨arrC .u8 a1⟩ 207 (0, 0)) :: .blk b1 (.cells ⟨arrC .u32 y417⟩ 163 (0, 0)) :: F) w ∧ Fr 115 ([(2, .pointer (some ⟨b1, 0, none⟩)), (4, .pointer (some ⟨b7, 0, none⟩)), (6, .pointer (some ⟨b154, 0, none⟩)), (102, .int .i64 y418)]) a) (fun _ => rfl) ?_ BIG (a0, 0) _ _ ⟨hw, hf.to ⟨rfl, rfl, rfl, rfl, trivial⟩⟩ hp
   intro k st a w hI hp ih
   obtain ⟨y417, y418⟩ := st
   obtain ⟨hw, hf⟩ := hI
   rw [digest_Block.l1] at hp
   refine wq <| wr <| oR hf (iC hf rfl rfl rfl) rfl fun a hf => oN <| ct <| wq <| cC hf rfl (fun hb429 => ?_) (fun hb429 => ?_)
   ·replace hp := cond_t hb429 hp
    refine wp_skip <| ct <| wq <| wp_block <| wq <| wr <| om hf rfl rfl fun a hf => oa hf rfl rfl fun a hf => oN <| ct <| c_drawn mix [8] (.rd 0 (.rd 1 (.rd 2 (.rd 3 (.rd 4 (.rd 5 (.rd 6 (.rd 7 (.ef 8 .done))))))))) (by kernel_rfl) hw (fun w => Ok E I (.blk b154 (.cells ⟨arrC .u32 y339⟩ 163 (0, 0)) :: .blk b150 (.cells ⟨arrC .u32 y144⟩ 165 (0, 0)) :: .blk b7 (.cells ⟨arrC .u32 (Vector.replicate 8 0 : Vector Int 8)⟩ 163 (0, 0)) :: .blk b4 (.cells ⟨arrC .u8 a1⟩ 207 (0, 0)) :: .blk b1 (.cells ⟨arrC .u32 y417⟩ 163 (0, 0)) :: F) w) (fun w hw => ⟨hw.sub (scc (scc (scc (scc (scc sr))))), ?_⟩)
    refine tm rfl hf rfl rfl fun a hf => ?_
    obtain ⟨hg431, hp⟩ := gS hp
    refine tR rfl hf (fun w hw => r_indexAddrA hf el_163 rfl rfl hg431) rfl fun a hf => tR rfl hf (fun w hw => rL hw hf rfl ty_109 4 rfl (arr_at (k := .u32) (v := y417) rfl hg431)) rfl fun a hf => tm rfl hf rfl rfl fun a hf => ?_
    obtain ⟨hg432, hp⟩ := gS hp
    refine tR rfl hf (fun w hw => r_indexAddrA hf el_163 rfl rfl hg432) rfl fun a hf => tR rfl hf (fun w hw => rL hw hf rfl ty_109 0 rfl (arr_at (k := .u32) (v := y339) rfl hg432)) rfl fun a hf => tR rfl hf (fun w hw => r_add hf rfl rfl) rfl fun a hf => ?_
    obtain ⟨hg433, hp⟩ := gS hp
    refine tR rfl hf (fun w hw => r_indexAddrA hf el_163 rfl rfl hg433) rfl fun a hf => t_ef rfl ?_
    obtain ⟨w, hrun434, hw⟩ := e_store (P := P) hw hf (x := .tmp 112) (y := .tmp 111) rfl rfl ty_109 4 rfl (vs := [.int .u32 (wu32 ((vg y417 y418) + (vg y339 y418)))]) rfl rfl (oC rfl ones_nil) (by first | (simp [arrC_len] <;> omega) | (have h := hg433; try (simp only [w64, wu8, wu16, wu32, wu64] at h); simp only [List.length_cons, arrC_len]; omega)) (cs' := (arrC .u32 (vset y417 y418 (wu32 ((vg y417 y418) + (vg y339 y418)))))) (arr_store (pre := ([] : List Value)) (v := y417) rfl rfl rfl hg433)
    dsimp only [List.set] at hw
    refine t_effU (hrun434 ..) ⟨.inl rfl, ?_⟩
    refine t_done <| c_blockN <| ct <| wr <| oR hf (r_add hf rfl rfl) rfl fun a hf => om hf rfl rfl fun a hf => oN <| ct ?_
    exact ih (vset y417 y418 (wu32 ((vg y417 y418) + (vg y339 y418))), w64 (y418 + 1)) _ _ ⟨hw, hf.to ⟨rfl, rfl, rfl, rfl, trivial⟩⟩ hp
   ·replace hp := cond_f hb429 hp
    refine wp_exit <| c_thenE <| c_thenE <| c_exit <| ct ?_
    have ho := oI hp
    subst ho
    exact ⟨y417, rfl, hw, hf.to ⟨rfl, rfl, trivial⟩⟩
  ·intro a w hM
   obtain ⟨y425, rfl, hw, hf⟩ := hM
   replace hp := hq427
   refine ct <| wq <| wr <| oR hf (r_loadA hw hf rfl ty_163 4 rfl (vs := (arrC .u32 y425)) (take_all (by simp [arrC_len])) (by simp [arrC_len])) rfl fun a hf => ?_
   obtain ⟨w, hrun436, hw⟩ := e_store (P := P) hw hf (x := .tmp 4) (y := .tmp 114) rfl rfl ty_163 2 rfl (vs := (arrC .u32 y425)) rfl (by simp [arrC_len]) (arrC_one _ _) (by simp [arrC_len]) (cs' := (arrC .u32 y425)) (by simp [arrC_len])
   dsimp only [List.set] at hw
   refine o_effU (hrun436 ..) <| oN <| ct <| wp_ret ?_
   replace hw : Ok E I (.blk b7 (.cells ⟨arrC .u32 y425⟩ 163 (0, 0)) :: F) w := hw.sub (sc (sc (scc (sc (sc sr)))))
   have ho := oI hp
   subst ho
   exact b_retC hw hf results103 ty_163 rfl 0 rfl (vs := (arrC .u32 y425)) (take_all (by simp [arrC_len])) (by simp [arrC_len]) ⟨_, rfl, ⟨rfl, hw.tail⟩⟩

theorem digest_Of_ok {E : World} {I : IH} {F : List Atom} {w : World} {a0 : ByteArray} {res0 : ByteArray} (hw : Ok E I (F) w) (hG : Gl I) (hp : digest_Of.f a0 = some res0) :
  Calls P 68 ⟨[Value.string a0]⟩ w fun e w' => ∃ v, e = .returned v ∧ v = Value.string res0 ∧ Ok E I (F) w' := by
 refine c_enter func68 rfl ntmps68 rfl fun a hf => ?_
 replace hf : Fr 45 [(0, .string a0)] a := hf
 unfold digest_Of.f at hp
 refine wq <| wr <| oa hf rfl rfl fun a hf => oN <| ct <| wq <| wr <| om hf rfl rfl fun a hf => om hf rfl rfl fun a hf => oR hf (r_lenS hf und_9 rfl) rfl fun a hf => ?_
 obtain ⟨y85, hy86, hp⟩ := bS hp
 have hc88 := digest_Pad_ok hw hG hy86
 refine o_call hf cb_102 rfl rfl hc88 (fun v90 w a hK89 hf => ?_)
 obtain ⟨rfl, hw⟩ := hK89
 obtain ⟨hg91, hp⟩ := gS hp
 refine oR hf (r_sadd hf rfl rfl hg91) rfl fun a hf => oa hf rfl rfl fun a hf => oN <| ct <| wq <| wr ?_
 obtain ⟨_, _, hgl92⟩ := hG.g0
 refine oR hf (r_loadGA hw hf rfl ty_163 hgl92 (vs := arrC .u32 glob_0) (take_all (arrC_len _ _)) (arrC_len _ _)) rfl fun a hf => ?_
 obtain ⟨b93, w, hrun94, hw⟩ := e_alloc (P := P) (a := a) hw ty_163
 refine o_eff hf (hrun94 ..) rfl fun a hf => ?_
 obtain ⟨w, hrun96, hw⟩ := e_store (P := P) hw hf (x := .tmp 3) (y := .tmp 12) rfl rfl ty_163 0 rfl (vs := (arrC .u32 glob_0)) rfl (by simp [arrC_len]) (arrC_one _ _) (by simp [arrC_len]) (cs' := (arrC .u32 glob_0)) (by simp [arrC_len])
 dsimp only [List.set] at hw
 refine o_effU (hrun96 ..) <| oN <| ct <| wq ?_
 obtain ⟨out486, hp, hq487⟩ := bS hp
 refine c_cutX (fun a w => ∃ y485 : Vector Int 8, y485 = out486 ∧ Ok E I (.blk b93 (.cells ⟨arrC .u32 y485⟩ 163 (0, 0)) :: F) w ∧ Fr 45 ([(3, .pointer (some ⟨b93, 0, none⟩))]) a) ?_ ?_
 ·refine wp_block <| c_loop <| c_fuel (digest_Of.l0) out486 (fun (y465, y466) a w => Ok E I (.blk b93 (.cells ⟨arrC .u32 y465⟩ 163 (0, 0)) :: F) w ∧ Fr 45 ([(0, .string y466), (3, .pointer (some ⟨b93, 0, none⟩))]) a) (fun _ => rfl) ?_ BIG (glob_0, a0 ++ y85) _ _ ⟨hw, hf.to ⟨rfl, rfl, trivial⟩⟩ hp
  intro k st a w hI hp ih
  obtain ⟨y465, y466⟩ := st
  obtain ⟨hw, hf⟩ := hI
  rw [digest_Of.l0] at hp
  refine wq <| wq <| wr <| om hf rfl rfl fun a hf => oR hf (r_scmp hf rfl rfl rfl) rfl fun a hf => oN <| ct <| cC hf rfl (fun hb489 => ?_) (fun hb489 => ?_)
  ·replace hp := cond_t hb489 hp
   refine wp_skip <| ct <| wq <| wp_block <| c_drawn mix [7] (.rd 0 (.rd 1 (.rd 2 (.ef 3 (.ef 4 (.ef 5 (.ef 6 (.ef 7 .done)))))))) (by kernel_rfl) hw (fun w => Ok E I (.blk b93 (.cells ⟨arrC .u32 y465⟩ 163 (0, 0)) :: F) w) (fun w hw => ⟨hw.sub (scc sr), ?_⟩)
   refine tR rfl hf (fun w hw => r_loadA hw hf rfl ty_163 0 rfl (vs := (arrC .u32 y465)) (take_all (by simp [arrC_len])) (by simp [arrC_len])) rfl fun a hf => tm rfl hf rfl rfl fun a hf => ?_
   obtain ⟨hg491, hp⟩ := gS hp
   refine tR rfl hf (fun w hw => r_sliceSh hf und_9 rfl rfl hg491) rfl fun a hf => t_ef rfl ?_
   obtain ⟨hg492, hp⟩ := gS hp
   obtain ⟨w, v493, sA496, hrun494, hw, hRR495⟩ := e_convSB (P := P) hw hf (x := .tmp 19) und_9 und_45 und_5 rfl hg492
   refine t_eff hf (hrun494 ..) rfl fun a hf => ⟨.inr (hw.back (IH.le_refl _) (sc (scc sr))), ?_⟩
   refine t_ef rfl ?_
   obtain ⟨hg498, hp⟩ := gS hp
   refine t_eff hf (r_s2ap hf el_207 rfl (sb_rd hw (i := 0) rfl hRR495) hg498) rfl fun a hf => ⟨.inr (hw.back (IH.le_refl _) (sc (scc sr))), ?_⟩
   refine t_ef rfl <| t_eff hf (r_loadSP hf rfl ty_207 (sb_rd hw (i := 0) rfl hRR495) hg498) rfl fun a hf => ⟨.inr (hw.back (IH.le_refl _) (sc (scc sr))), ?_⟩
   refine t_ef rfl ?_
   obtain ⟨y499, hy500, hp⟩ := bS hp
   have hc502 := digest_Block_ok hw hG hy500
   refine t_call hf cb_103 rfl rfl hc502 (fun v504 w a hK503 hf => ?_)
   obtain ⟨rfl, hw⟩ := hK503
   refine ⟨.inr (hw.back (IH.le_refl _) (sc (scc sr))), ?_⟩
   refine t_ef rfl ?_
   obtain ⟨w, hrun505, hw⟩ := e_store (P := P) hw hf (x := .tmp 3) (y := .tmp 23) rfl rfl ty_163 1 rfl (vs := (arrC .u32 y499)) rfl (by simp [arrC_len]) (arrC_one _ _) (by simp [arrC_len]) (cs' := (arrC .u32 y499)) (by simp [arrC_len])
   dsimp only [List.set] at hw
   refine t_effU (hrun505 ..) ⟨.inl rfl, ?_⟩
   refine t_done <| c_blockN <| ct <| wr <| om hf rfl rfl fun a hf => ?_
   obtain ⟨hg506, hp⟩ := gS hp
   refine oR hf (r_sliceSl hf und_9 rfl rfl hg506) rfl fun a hf => oa hf rfl rfl fun a hf => oN <| ct ?_
   replace hw : Ok E I (.blk b93 (.cells ⟨arrC .u32 y499⟩ 163 (0, 0)) :: F) w := hw.sub (sc (scc sr))
   exact ih (y499, sub y466 64 (y466.size : Int)) _ _ ⟨hw, hf.to ⟨rfl, rfl, trivial⟩⟩ hp
  ·replace hp := cond_f hb489 hp
   refine wp_exit <| c_thenE <| c_thenE <| c_exit <| ct ?_
   have ho := oI hp
   subst ho
   exact ⟨y465, rfl, hw, hf.to ⟨rfl, trivial⟩⟩
 ·intro a w hM
  obtain ⟨y485, rfl, hw, hf⟩ := hM
  replace hp := hq487
  refine ct <| wq <| wr <| oa hf rfl rfl fun a hf => oN <| ct <| wq <| wq <| wr <| oR hf (r_loadA hw hf rfl ty_163 0 rfl (vs := (arrC .u32 y485)) (take_all (by simp [arrC_len])) (by simp [arrC_len])) rfl fun a hf => om hf rfl rfl fun a hf => oN <| ct ?_
  replace hw := hw.nilrow 5 1
  have hRR524 : RowR (ekI .u8) I [] [] := RowR.nil
  obtain ⟨out581, hp, hq582⟩ := bS hp
  refine c_cutX (fun a w => ∃ y576 : List Int, ∃ yv577 : Value, ∃ m578 : Nat, ∃ cs579 : List Value, y576 = out581 ∧ Ok E I (.row yv577 5 1 m578 cs579 :: .blk b93 (.cells ⟨arrC .u32 y485⟩ 163 (0, 0)) :: F) w ∧ Fr 45 ([(4, yv577)]) a ∧ RowR (ekI .u8) I cs579 y576) ?_ ?_
  ·refine wp_block <| c_loop <| c_fuel (digest_Of.l1 y485) out581 (fun (y557, y562) a w => ∃ yv558 : Value, ∃ m559 : Nat, ∃ cs560 : List Value, Ok E I (.row yv558 5 1 m559 cs560 :: .blk b93 (.cells ⟨arrC .u32 y485⟩ 163 (0, 0)) :: F) w ∧ Fr 45 ([(4, yv558), (24, Value.agg ⟨arrC .u32 y485⟩), (25, .int .i64 y562)]) a ∧ RowR (ekI .u8) I cs560 y557) (fun _ => rfl) ?_ BIG (([] : List Int), 0) _ _ ⟨(.slice none 0 0), 0, [], hw, hf.to ⟨rfl, rfl, rfl, trivial⟩, hRR524⟩ hp
   intro k st a w hI hp ih
   obtain ⟨y557, y562⟩ := st
   obtain ⟨yv558, m559, cs560, hw, hf, hRR561⟩ := hI
   rw [digest_Of.l1] at hp
   refine wq <| wr <| oR hf (iC hf rfl rfl rfl) rfl fun a hf => oN <| ct <| wq <| cC hf rfl (fun hb584 => ?_) (fun hb584 => ?_)
   ·replace hp := cond_t hb584 hp
    refine wp_skip <| ct <| wq <| wp_block <| wq <| wr ?_
    obtain ⟨hg585, hp⟩ := gS hp
    refine oR hf (r_indexArr hf el_163 ty_109 rfl rfl hg585) rfl fun a hf => oa hf rfl rfl fun a hf => oN <| ct <| wr <| om hf rfl rfl fun a hf => om hf rfl rfl fun a hf => oR hf (r_shr hf rfl rfl (by decide)) rfl fun a hf => oR hf (r_convI hf und_109 und_5 rfl) rfl fun a hf => om hf rfl rfl fun a hf => oR hf (r_shr hf rfl rfl (by decide)) rfl fun a hf => oR hf (r_convI hf und_109 und_5 rfl) rfl fun a hf => om hf rfl rfl fun a hf => oR hf (r_shr hf rfl rfl (by decide)) rfl fun a hf => oR hf (r_convI hf und_109 und_5 rfl) rfl fun a hf => om hf rfl rfl fun a hf => ?_
    refine oR hf (r_convI hf und_109 und_5 rfl) rfl fun a hf => ?_
    obtain ⟨w, v586, hrun587, hw, hRR588⟩ := e_buildSlice (P := P) (K := (ekI .u8)) (m := 4) hw hf (parts := [(0, .tmp 31), (1, .tmp 34), (2, .tmp 37), (3, .tmp 39)]) el_45 ty_5 rfl rfl rfl (ccs := [[Value.int .u8 (wu8 (shr .u32 (vg y485 y562) 24))], [Value.int .u8 (wu8 (shr .u32 (vg y485 y562) 16))], [Value.int .u8 (wu8 (shr .u32 (vg y485 y562) 8))], [Value.int .u8 (wu8 (vg y485 y562))]]) rfl (xs := [wu8 (shr .u32 (vg y485 y562) 24), wu8 (shr .u32 (vg y485 y562) 16), wu8 (shr .u32 (vg y485 y562) 8), wu8 (vg y485 y562)]) ⟨rfl, rfl, rfl, rfl, trivial⟩ rfl
    obtain ⟨cs589, hcs⟩ : ∃ cs, cs = ([[Value.int .u8 (wu8 (shr .u32 (vg y485 y562) 24))], [Value.int .u8 (wu8 (shr .u32 (vg y485 y562) 16))], [Value.int .u8 (wu8 (shr .u32 (vg y485 y562) 8))], [Value.int .u8 (wu8 (vg y485 y562))]] : List (List Value)).flatten := ⟨_, rfl⟩
    rw [← hcs] at hw hRR588; clear hcs
    refine o_eff hf (hrun587 ..) rfl fun a hf => ?_
    obtain ⟨hg591, hp⟩ := gS hp
    obtain ⟨w, v592, m593, cs594, hrun596, hw, hRR595⟩ := e_append (P := P) (K := (ekI .u8)) (ty := 45) hw hf (s := .tmp 28) (x := .tmp 40) el_45 ty_5 rfl (by decide) 1 rfl rfl rfl hRR561 (ys := [wu8 (shr .u32 (vg y485 y562) 24), wu8 (shr .u32 (vg y485 y562) 16), wu8 (shr .u32 (vg y485 y562) 8), wu8 (vg y485 y562)]) (rR (K := (ekI .u8)) hw (i := 0) rfl hRR588) hg591
    replace hw : Ok E I (.row v586 5 1 4 cs589 :: .row v592 5 1 m593 cs594 :: .blk b93 (.cells ⟨arrC .u32 y485⟩ 163 (0, 0)) :: F) w := hw
    refine o_eff hf (hrun596 ..) rfl fun a hf => oa hf rfl rfl fun a hf => oN <| c_blockN <| ct <| wr <| oR hf (r_add hf rfl rfl) rfl fun a hf => om hf rfl rfl fun a hf => oN <| ct ?_
    replace hw : Ok E I (.row v592 5 1 m593 cs594 :: .blk b93 (.cells ⟨arrC .u32 y485⟩ 163 (0, 0)) :: F) w := hw.sub (sc (scc (scc sr)))
    exact ih (y557 ++ [wu8 (shr .u32 (vg y485 y562) 24), wu8 (shr .u32 (vg y485 y562) 16), wu8 (shr .u32 (vg y485 y562) 8), wu8 (vg y485 y562)], w64 (y562 + 1)) _ _ ⟨v592, m593, cs594, hw, hf.to ⟨rfl, rfl, rfl, trivial⟩, hRR595⟩ hp
   ·replace hp := cond_f hb584 hp
    refine wp_exit <| c_thenE <| c_thenE <| c_exit <| ct ?_
    have ho := oI hp
    subst ho
    exact ⟨y557, yv558, m559, cs560, rfl, hw, hf.to ⟨rfl, trivial⟩, hRR561⟩
  ·intro a w hM
   obtain ⟨y576, yv577, m578, cs579, rfl, hw, hf, hRR580⟩ := hM
   replace hp := hq582
   refine ct <| wq <| wr <| om hf rfl rfl fun a hf => oR hf (r_convB hf und_45 und_5 und_9 rfl (rR (K := (ekI .u8)) hw (i := 0) rfl hRR580)) rfl fun a hf => oa hf rfl rfl fun a hf => oN <| ct <| wp_ret ?_
   replace hw : Ok E I (F) w := hw.sub (sc (sc sr))
   have ho := oI hp
   subst ho
   exact b_ret1 hf results68 rfl ⟨_, rfl, ⟨rfl, hw⟩⟩

theorem root_Empty_ok {E : World} {I : IH} {F : List Atom} {w : World} {res0 : ByteArray} (hw : Ok E I (F) w) (hG : Gl I) (hp : root_Empty.f = some res0) :
  Calls P 37 ⟨[]⟩ w fun e w' => ∃ v, e = .returned v ∧ v = Value.string res0 ∧ Ok E I (F) w' := by
 refine c_enter func37 rfl ntmps37 rfl fun a hf => ?_
 replace hf : Fr 2 [] a := hf
 unfold root_Empty.f at hp
 refine wq <| wr <| oa hf rfl rfl fun a hf => oN <| ct <| wq <| wr ?_
 obtain ⟨y598, hy599, hp⟩ := bS hp
 have hc601 := digest_Of_ok hw hG hy599
 refine o_call hf cb_68 rfl rfl hc601 (fun v603 w a hK602 hf => ?_)
 obtain ⟨rfl, hw⟩ := hK602
 refine oa hf rfl rfl fun a hf => oN <| ct <| wp_ret ?_
 have ho := oI hp
 subst ho
 exact b_ret1 hf results37 rfl ⟨_, rfl, ⟨rfl, hw⟩⟩
end Go.Lf
