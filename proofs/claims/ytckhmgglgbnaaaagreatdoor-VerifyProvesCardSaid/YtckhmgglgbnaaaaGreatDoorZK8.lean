import Derived.Test.YtckhmgglgbnaaaaGreatDoorZD
import Derived.Test.YtckhmgglgbnaaaaGreatDoorZF
import Derived.Test.YtckhmgglgbnaaaaGreatDoorJ
import Derived.Test.YtckhmgglgbnaaaaGreatDoorUB
import Derived.Test.YtckhmgglgbnaaaaGreatDoorZK7
set_option linter.unusedVariables false
set_option linter.unusedSimpArgs false
set_option maxHeartbeats 1000000
set_option maxRecDepth 20000
namespace Go.Lf
open Go Go.Proofs.Tryz
theorem ref04_Step_ok {E : World} {I : IH} {F : List Atom} {w : World} {a0 : Vector Int 8} {a1 : Vector Int 64} {a2 : Vector Int 64} {res0 : Vector Int 8} (hw : Ok E I (F) w) (hG : Gl I) (hp : ref04_Step.f a0 a1 a2 = some res0) :
  Calls P 112 ⟨[Value.agg ⟨arrC .u32 a0⟩, Value.agg ⟨arrC .u8 a1⟩, Value.agg ⟨arrC .u32 a2⟩]⟩ w fun e w' => ∃ v, e = .returned v ∧ v = Value.agg ⟨arrC .u32 res0⟩ ∧ Ok E I (F) w' := by
 refine c_enter func112 rfl ntmps112 rfl fun a hf => ?_
 replace hf : Fr 188 [(0, Value.agg ⟨arrC .u32 a0⟩), (1, Value.agg ⟨arrC .u8 a1⟩), (2, Value.agg ⟨arrC .u32 a2⟩)] a := hf
 unfold ref04_Step.f at hp
 refine wq <| wr ?_
 obtain ⟨b1, w, hrun2, hw⟩ := e_box (P := P) hw hf (e := 163) (x := .tmp 0) rfl (cs := (arrC .u32 a0)) rfl
 refine o_eff hf (hrun2 ..) rfl fun a hf => ?_
 obtain ⟨b4, w, hrun5, hw⟩ := e_box (P := P) hw hf (e := 207) (x := .tmp 1) rfl (cs := (arrC .u8 a1)) rfl
 refine o_eff hf (hrun5 ..) rfl fun a hf => ?_
 obtain ⟨b7, w, hrun8, hw⟩ := e_box (P := P) hw hf (e := 165) (x := .tmp 2) rfl (cs := (arrC .u32 a2)) rfl
 refine o_eff hf (hrun8 ..) rfl fun a hf => ?_
 obtain ⟨b10, w, hrun11, hw⟩ := e_alloc (P := P) (a := a) hw ty_163
 refine o_eff hf (hrun11 ..) rfl fun a hf => oN <| ct <| wq <| wr ?_
 obtain ⟨b13, w, hrun14, hw⟩ := e_alloc (P := P) (a := a) hw ty_165
 refine o_eff hf (hrun14 ..) rfl fun a hf => oN <| ct <| wq <| wq <| wr <| oa hf rfl rfl fun a hf => oN <| ct ?_
 obtain ⟨out365, hp, hq366⟩ := bS hp
 refine c_cutX (fun a w => ∃ y364 : Vector Int 64, y364 = out365 ∧ Ok E I (.blk b13 (.cells ⟨arrC .u32 y364⟩ 165 (0, 0)) :: .blk b10 (.cells ⟨arrC .u32 (Vector.replicate 8 0 : Vector Int 8)⟩ 163 (0, 0)) :: .blk b7 (.cells ⟨arrC .u32 a2⟩ 165 (0, 0)) :: .blk b4 (.cells ⟨arrC .u8 a1⟩ 207 (0, 0)) :: .blk b1 (.cells ⟨arrC .u32 a0⟩ 163 (0, 0)) :: F) w ∧ Fr 188 ([(3, .pointer (some ⟨b1, 0, none⟩)), (5, .pointer (some ⟨b7, 0, none⟩)), (6, .pointer (some ⟨b10, 0, none⟩)), (7, .pointer (some ⟨b13, 0, none⟩))]) a) ?_ ?_
 ·refine wp_block <| c_loop <| c_fuel (ref04_Step.l0 a1) out365 (fun (y238, y239) a w => Ok E I (.blk b13 (.cells ⟨arrC .u32 y238⟩ 165 (0, 0)) :: .blk b10 (.cells ⟨arrC .u32 (Vector.replicate 8 0 : Vector Int 8)⟩ 163 (0, 0)) :: .blk b7 (.cells ⟨arrC .u32 a2⟩ 165 (0, 0)) :: .blk b4 (.cells ⟨arrC .u8 a1⟩ 207 (0, 0)) :: .blk b1 (.cells ⟨arrC .u32 a0⟩ 163 (0, 0)) :: F) w ∧ Fr 188 ([(3, .pointer (some ⟨b1, 0, none⟩)), (4, .pointer (some ⟨b4, 0, none⟩)), (5, .pointer (some ⟨b7, 0, none⟩)), (6, .pointer (some ⟨b10, 0, none⟩)), (7, .pointer (some ⟨b13, 0, none⟩)), (8, .int .i64 y239)]) a) (fun _ => rfl) ?_ BIG ((Vector.replicate 64 0 : Vector Int 64), 0) _ _ ⟨hw, hf.to ⟨rfl, rfl, rfl, rfl, rfl, rfl, trivial⟩⟩ hp
  intro k st a w hI hp ih
  obtain ⟨y238, y239⟩ := st
  obtain ⟨hw, hf⟩ := hI
  rw [ref04_Step.l0] at hp
  refine wq <| wq <| wr <| om hf rfl rfl fun a hf => oR hf (iC hf rfl rfl rfl) rfl fun a hf => oN <| ct <| cC hf rfl (fun hb368 => ?_) (fun hb368 => ?_)
  ·replace hp := cond_t hb368 hp
   refine wp_skip <| ct ?_
   obtain ⟨out450, hp, hq451⟩ := bS hp
   refine c_cut (fun a w => ∃ y449 : Vector Int 64, y449 = out450 ∧ Ok E I (.blk b13 (.cells ⟨arrC .u32 y449⟩ 165 (0, 0)) :: .blk b10 (.cells ⟨arrC .u32 (Vector.replicate 8 0 : Vector Int 8)⟩ 163 (0, 0)) :: .blk b7 (.cells ⟨arrC .u32 a2⟩ 165 (0, 0)) :: .blk b4 (.cells ⟨arrC .u8 a1⟩ 207 (0, 0)) :: .blk b1 (.cells ⟨arrC .u32 a0⟩ 163 (0, 0)) :: F) w ∧ Fr 188 ([(3, .pointer (some ⟨b1, 0, none⟩)), (4, .pointer (some ⟨b4, 0, none⟩)), (5, .pointer (some ⟨b7, 0, none⟩)), (6, .pointer (some ⟨b10, 0, none⟩)), (7, .pointer (some ⟨b13, 0, none⟩)), (8, .int .i64 y239)]) a) ?_ ?_
   ·refine wp_block <| wq <| wq <| wr <| om hf rfl rfl fun a hf => oR hf (iC hf rfl rfl rfl) rfl fun a hf => oN <| ct <| cC hf rfl (fun hb452 => ?_) (fun hb452 => ?_)
    ·replace hp := cond_t hb452 hp
     refine wq <| c_drawn mix [31] (.rd 0 (.rd 1 (.rd 2 (.rd 3 (.rd 4 (.rd 5 (.rd 6 (.rd 7 (.rd 8 (.rd 9 (.rd 10 (.rd 11 (.rd 12 (.rd 13 (.rd 14 (.rd 15 (.rd 16 (.rd 17 (.rd 18 (.rd 19 (.rd 20 (.rd 21 (.rd 22 (.rd 23 (.rd 24 (.rd 25 (.rd 26 (.rd 27 (.rd 28 (.rd 29 (.rd 30 (.ef 31 .done)))))))))))))))))))))))))))))))) (by kernel_rfl) hw (fun w => Ok E I (.blk b13 (.cells ⟨arrC .u32 y238⟩ 165 (0, 0)) :: .blk b10 (.cells ⟨arrC .u32 (Vector.replicate 8 0 : Vector Int 8)⟩ 163 (0, 0)) :: .blk b7 (.cells ⟨arrC .u32 a2⟩ 165 (0, 0)) :: .blk b4 (.cells ⟨arrC .u8 a1⟩ 207 (0, 0)) :: .blk b1 (.cells ⟨arrC .u32 a0⟩ 163 (0, 0)) :: F) w) (fun w hw => ⟨hw.sub (scc (scc (scc (scc (scc sr))))), ?_⟩)
     refine tm rfl hf rfl rfl fun a hf => tm rfl hf rfl rfl fun a hf => tR rfl hf (fun w hw => r_mul hf rfl rfl) rfl fun a hf => ?_
     obtain ⟨hg454, hp⟩ := gS hp
     refine tR rfl hf (fun w hw => r_indexAddrA hf el_207 rfl rfl hg454) rfl fun a hf => tR rfl hf (fun w hw => rL hw hf rfl ty_5 3 rfl (arr_at (k := .u8) (v := a1) rfl hg454)) rfl fun a hf => tR rfl hf (fun w hw => r_convI hf und_5 und_109 rfl) rfl fun a hf => tR rfl hf (fun w hw => r_shl hf rfl rfl (by decide)) rfl fun a hf => tm rfl hf rfl rfl fun a hf => tR rfl hf (fun w hw => r_mul hf rfl rfl) rfl fun a hf => tR rfl hf (fun w hw => r_add hf rfl rfl) rfl fun a hf => ?_
     obtain ⟨hg455, hp⟩ := gS hp
     refine tR rfl hf (fun w hw => r_indexAddrA hf el_207 rfl rfl hg455) rfl fun a hf => tR rfl hf (fun w hw => rL hw hf rfl ty_5 3 rfl (arr_at (k := .u8) (v := a1) rfl hg455)) rfl fun a hf => tR rfl hf (fun w hw => r_convI hf und_5 und_109 rfl) rfl fun a hf => tR rfl hf (fun w hw => r_shl hf rfl rfl (by decide)) rfl fun a hf => tR rfl hf (fun w hw => r_or hf rfl rfl) rfl fun a hf => tm rfl hf rfl rfl fun a hf => tR rfl hf (fun w hw => r_mul hf rfl rfl) rfl fun a hf => tR rfl hf (fun w hw => r_add hf rfl rfl) rfl fun a hf => ?_
     obtain ⟨hg456, hp⟩ := gS hp
     refine tR rfl hf (fun w hw => r_indexAddrA hf el_207 rfl rfl hg456) rfl fun a hf => tR rfl hf (fun w hw => rL hw hf rfl ty_5 3 rfl (arr_at (k := .u8) (v := a1) rfl hg456)) rfl fun a hf => tR rfl hf (fun w hw => r_convI hf und_5 und_109 rfl) rfl fun a hf => tR rfl hf (fun w hw => r_shl hf rfl rfl (by decide)) rfl fun a hf => tR rfl hf (fun w hw => r_or hf rfl rfl) rfl fun a hf => tm rfl hf rfl rfl fun a hf => tR rfl hf (fun w hw => r_mul hf rfl rfl) rfl fun a hf => tR rfl hf (fun w hw => r_add hf rfl rfl) rfl fun a hf => ?_
     obtain ⟨hg457, hp⟩ := gS hp
     refine tR rfl hf (fun w hw => r_indexAddrA hf el_207 rfl rfl hg457) rfl fun a hf => tR rfl hf (fun w hw => rL hw hf rfl ty_5 3 rfl (arr_at (k := .u8) (v := a1) rfl hg457)) rfl fun a hf => tR rfl hf (fun w hw => r_convI hf und_5 und_109 rfl) rfl fun a hf => tR rfl hf (fun w hw => r_or hf rfl rfl) rfl fun a hf => ?_
     obtain ⟨hg458, hp⟩ := gS hp
     refine tR rfl hf (fun w hw => r_indexAddrA hf el_165 rfl rfl hg458) rfl fun a hf => t_ef rfl ?_
     obtain ⟨w, hrun459, hw⟩ := e_store (P := P) hw hf (x := .tmp 54) (y := .tmp 53) rfl rfl ty_109 0 rfl (vs := [.int .u32 (bor .u32 (bor .u32 (bor .u32 (shl .u32 (wu32 (vg a1 (w64 (4 * y239)))) 24) (shl .u32 (wu32 (vg a1 (w64 ((w64 (4 * y239)) + 1)))) 16)) (shl .u32 (wu32 (vg a1 (w64 ((w64 (4 * y239)) + 2)))) 8)) (wu32 (vg a1 (w64 ((w64 (4 * y239)) + 3)))))]) rfl rfl (oC rfl ones_nil) (by first | (simp [arrC_len] <;> omega) | (have h := hg458; try (simp only [w64, wu8, wu16, wu32, wu64] at h); simp only [List.length_cons, arrC_len]; omega)) (cs' := (arrC .u32 (vset y238 y239 (bor .u32 (bor .u32 (bor .u32 (shl .u32 (wu32 (vg a1 (w64 (4 * y239)))) 24) (shl .u32 (wu32 (vg a1 (w64 ((w64 (4 * y239)) + 1)))) 16)) (shl .u32 (wu32 (vg a1 (w64 ((w64 (4 * y239)) + 2)))) 8)) (wu32 (vg a1 (w64 ((w64 (4 * y239)) + 3)))))))) (arr_store (pre := ([] : List Value)) (v := y238) rfl rfl rfl hg458)
     dsimp only [List.set] at hw
     refine t_effU (hrun459 ..) ⟨.inl rfl, ?_⟩
     refine t_done <| ct <| wp_exit <| c_thenE <| c_exit <| ct ?_
     have ho := oI hp
     subst ho
     exact ⟨(vset y238 y239 (bor .u32 (bor .u32 (bor .u32 (shl .u32 (wu32 (vg a1 (w64 (4 * y239)))) 24) (shl .u32 (wu32 (vg a1 (w64 ((w64 (4 * y239)) + 1)))) 16)) (shl .u32 (wu32 (vg a1 (w64 ((w64 (4 * y239)) + 2)))) 8)) (wu32 (vg a1 (w64 ((w64 (4 * y239)) + 3)))))), rfl, hw, hf.to ⟨rfl, rfl, rfl, rfl, rfl, rfl, trivial⟩⟩
    ·replace hp := cond_f hb452 hp
     refine wp_skip <| ct <| wq <| c_drawn mix [] (.rd 0 (.rd 1 (.rd 2 (.rd 3 (.rd 4 (.rd 5 (.rd 6 (.rd 7 (.rd 8 (.rd 9 .done)))))))))) (by kernel_rfl) hw (fun w => Ok E I (.blk b13 (.cells ⟨arrC .u32 y238⟩ 165 (0, 0)) :: .blk b10 (.cells ⟨arrC .u32 (Vector.replicate 8 0 : Vector Int 8)⟩ 163 (0, 0)) :: .blk b7 (.cells ⟨arrC .u32 a2⟩ 165 (0, 0)) :: .blk b4 (.cells ⟨arrC .u8 a1⟩ 207 (0, 0)) :: .blk b1 (.cells ⟨arrC .u32 a0⟩ 163 (0, 0)) :: F) w) (fun w hw => ⟨hw.sub (scc (scc (scc (scc (scc sr))))), ?_⟩)
     refine tm rfl hf rfl rfl fun a hf => tR rfl hf (fun w hw => r_sub hf rfl rfl) rfl fun a hf => ?_
     obtain ⟨hg461, hp⟩ := gS hp
     refine tR rfl hf (fun w hw => r_indexAddrA hf el_165 rfl rfl hg461) rfl fun a hf => tR rfl hf (fun w hw => rL hw hf rfl ty_109 0 rfl (arr_at (k := .u32) (v := y238) rfl hg461)) rfl fun a hf => tm rfl hf rfl rfl fun a hf => tR rfl hf (fun w hw => r_sub hf rfl rfl) rfl fun a hf => ?_
     obtain ⟨hg462, hp⟩ := gS hp
     refine tR rfl hf (fun w hw => r_indexAddrA hf el_165 rfl rfl hg462) rfl fun a hf => tR rfl hf (fun w hw => rL hw hf rfl ty_109 0 rfl (arr_at (k := .u32) (v := y238) rfl hg462)) rfl fun a hf => tR rfl hf (fun w hw => r_assign hf rfl) rfl fun a hf => tR rfl hf (fun w hw => r_assign hf rfl) rfl fun a hf => t_done <| ct <| c_drawn mix [29] (.rd 0 (.rd 1 (.rd 2 (.rd 3 (.rd 4 (.rd 5 (.rd 7 (.rd 10 (.rd 11 (.rd 14 (.rd 15 (.rd 16 (.rd 17 (.rd 19 (.rd 21 (.rd 24 (.rd 25 (.ef 6 (.ef 8 (.rd 9 (.rd 12 (.rd 13 (.rd 18 (.ef 20 (.ef 22 (.rd 23 (.rd 26 (.rd 27 (.rd 28 (.ef 29 .done)))))))))))))))))))))))))))))) (by kernel_rfl) hw (fun w => Ok E I (.blk b13 (.cells ⟨arrC .u32 y238⟩ 165 (0, 0)) :: .blk b10 (.cells ⟨arrC .u32 (Vector.replicate 8 0 : Vector Int 8)⟩ 163 (0, 0)) :: .blk b7 (.cells ⟨arrC .u32 a2⟩ 165 (0, 0)) :: .blk b4 (.cells ⟨arrC .u8 a1⟩ 207 (0, 0)) :: .blk b1 (.cells ⟨arrC .u32 a0⟩ 163 (0, 0)) :: F) w) (fun w hw => ⟨hw.sub (scc (scc (scc (scc (scc sr))))), ?_⟩)
     refine tm rfl hf rfl rfl fun a hf => tm rfl hf rfl rfl fun a hf => tR rfl hf (fun w hw => r_sub hf rfl rfl) rfl fun a hf => ?_
     obtain ⟨hg464, hp⟩ := gS hp
     refine tR rfl hf (fun w hw => r_indexAddrA hf el_165 rfl rfl hg464) rfl fun a hf => tR rfl hf (fun w hw => rL hw hf rfl ty_109 0 rfl (arr_at (k := .u32) (v := y238) rfl hg464)) rfl fun a hf => tm rfl hf rfl rfl fun a hf => tm rfl hf rfl rfl fun a hf => tm rfl hf rfl rfl fun a hf => tR rfl hf (fun w hw => r_shr hf rfl rfl (by decide)) rfl fun a hf => tm rfl hf rfl rfl fun a hf => tR rfl hf (fun w hw => r_sub hf rfl rfl) rfl fun a hf => ?_
     obtain ⟨hg465, hp⟩ := gS hp
     refine tR rfl hf (fun w hw => r_indexAddrA hf el_165 rfl rfl hg465) rfl fun a hf => tR rfl hf (fun w hw => rL hw hf rfl ty_109 0 rfl (arr_at (k := .u32) (v := y238) rfl hg465)) rfl fun a hf => tm rfl hf rfl rfl fun a hf => tm rfl hf rfl rfl fun a hf => tm rfl hf rfl rfl fun a hf => tR rfl hf (fun w hw => r_shr hf rfl rfl (by decide)) rfl fun a hf => t_ef rfl ?_
     obtain ⟨y466, hy467, hp⟩ := bS hp
     have hc469 := ref04_turn_ok hw hG hy467
     refine t_call hf cb_146 rfl rfl hc469 (fun v471 w a hK470 hf => ?_)
     obtain ⟨rfl, hw⟩ := hK470
     refine ⟨.inr (hw.back (IH.le_refl _) (scc (scc (scc (scc (scc sr)))))), ?_⟩
     refine t_ef rfl ?_
     obtain ⟨y472, hy473, hp⟩ := bS hp
     have hc475 := ref04_turn_ok hw hG hy473
     refine t_call hf cb_146 rfl rfl hc475 (fun v477 w a hK476 hf => ?_)
     obtain ⟨rfl, hw⟩ := hK476
     refine ⟨.inr (hw.back (IH.le_refl _) (scc (scc (scc (scc (scc sr)))))), ?_⟩
     refine tR rfl hf (fun w hw => r_xor hf rfl rfl) rfl fun a hf => tR rfl hf (fun w hw => r_xor hf rfl rfl) rfl fun a hf => tR rfl hf (fun w hw => r_add hf rfl rfl) rfl fun a hf => tR rfl hf (fun w hw => r_add hf rfl rfl) rfl fun a hf => t_ef rfl ?_
     obtain ⟨y478, hy479, hp⟩ := bS hp
     have hc481 := ref04_turn_ok hw hG hy479
     refine t_call hf cb_146 rfl rfl hc481 (fun v483 w a hK482 hf => ?_)
     obtain ⟨rfl, hw⟩ := hK482
     refine ⟨.inr (hw.back (IH.le_refl _) (scc (scc (scc (scc (scc sr)))))), ?_⟩
     refine t_ef rfl ?_
     obtain ⟨y484, hy485, hp⟩ := bS hp
     have hc487 := ref04_turn_ok hw hG hy485
     refine t_call hf cb_146 rfl rfl hc487 (fun v489 w a hK488 hf => ?_)
     obtain ⟨rfl, hw⟩ := hK488
     refine ⟨.inr (hw.back (IH.le_refl _) (scc (scc (scc (scc (scc sr)))))), ?_⟩
     refine tR rfl hf (fun w hw => r_xor hf rfl rfl) rfl fun a hf => tR rfl hf (fun w hw => r_xor hf rfl rfl) rfl fun a hf => tR rfl hf (fun w hw => r_add hf rfl rfl) rfl fun a hf => ?_
     obtain ⟨hg490, hp⟩ := gS hp
     refine tR rfl hf (fun w hw => r_indexAddrA hf el_165 rfl rfl hg490) rfl fun a hf => t_ef rfl ?_
     obtain ⟨w, hrun491, hw⟩ := e_store (P := P) hw hf (x := .tmp 91) (y := .tmp 90) rfl rfl ty_109 0 rfl (vs := [.int .u32 (wu32 ((wu32 ((wu32 ((vg y238 (w64 (y239 - 16))) + (bxor .u32 (bxor .u32 y466 y472) (shr .u32 (vg y238 (w64 (y239 - 15))) 3)))) + (vg y238 (w64 (y239 - 7))))) + (bxor .u32 (bxor .u32 y478 y484) (shr .u32 (vg y238 (w64 (y239 - 2))) 10))))]) rfl rfl (oC rfl ones_nil) (by first | (simp [arrC_len] <;> omega) | (have h := hg490; try (simp only [w64, wu8, wu16, wu32, wu64] at h); simp only [List.length_cons, arrC_len]; omega)) (cs' := (arrC .u32 (vset y238 y239 (wu32 ((wu32 ((wu32 ((vg y238 (w64 (y239 - 16))) + (bxor .u32 (bxor .u32 y466 y472) (shr .u32 (vg y238 (w64 (y239 - 15))) 3)))) + (vg y238 (w64 (y239 - 7))))) + (bxor .u32 (bxor .u32 y478 y484) (shr .u32 (vg y238 (w64 (y239 - 2))) 10))))))) (arr_store (pre := ([] : List Value)) (v := y238) rfl rfl rfl hg490)
     dsimp only [List.set] at hw
     refine t_effU (hrun491 ..) ⟨.inl rfl, ?_⟩
     refine t_done <| c_blockN <| ct ?_
     have ho := oI hp
     subst ho
     exact ⟨(vset y238 y239 (wu32 ((wu32 ((wu32 ((vg y238 (w64 (y239 - 16))) + (bxor .u32 (bxor .u32 y466 y472) (shr .u32 (vg y238 (w64 (y239 - 15))) 3)))) + (vg y238 (w64 (y239 - 7))))) + (bxor .u32 (bxor .u32 y478 y484) (shr .u32 (vg y238 (w64 (y239 - 2))) 10))))), rfl, hw, hf.to ⟨rfl, rfl, rfl, rfl, rfl, rfl, trivial⟩⟩
   ·intro a w hM
    obtain ⟨y449, rfl, hw, hf⟩ := hM
    replace hp := hq451
    refine wr <| om hf rfl rfl fun a hf => oR hf (r_add hf rfl rfl) rfl fun a hf => oa hf rfl rfl fun a hf => oN <| ct ?_
    exact ih (y449, w64 (y239 + 1)) _ _ ⟨hw, hf.to ⟨rfl, rfl, rfl, rfl, rfl, rfl, trivial⟩⟩ hp
  ·replace hp := cond_f hb368 hp
   refine wp_exit <| c_thenE <| c_thenE <| c_exit <| ct ?_
   have ho := oI hp
   subst ho
   exact ⟨y238, rfl, hw, hf.to ⟨rfl, rfl, rfl, rfl, trivial⟩⟩
 ·intro a w hM
  obtain ⟨y364, rfl, hw, hf⟩ := hM
  replace hp := hq366
  refine ct <| wq <| wr <| oR hf (r_loadA hw hf rfl ty_163 4 rfl (vs := (arrC .u32 a0)) (take_all (by simp [arrC_len])) (by simp [arrC_len])) rfl fun a hf => ?_
  obtain ⟨b493, w, hrun494, hw⟩ := e_alloc (P := P) (a := a) hw ty_163
  refine o_eff hf (hrun494 ..) rfl fun a hf => ?_
  obtain ⟨w, hrun496, hw⟩ := e_store (P := P) hw hf (x := .tmp 11) (y := .tmp 92) rfl rfl ty_163 0 rfl (vs := (arrC .u32 a0)) rfl (by simp [arrC_len]) (arrC_one _ _) (by simp [arrC_len]) (cs' := (arrC .u32 a0)) (by simp [arrC_len])
  dsimp only [List.set] at hw
  refine o_effU (hrun496 ..) <| oN <| ct <| wq <| wq <| wr <| oa hf rfl rfl fun a hf => oN <| ct ?_
  obtain ⟨out679, hp, hq680⟩ := bS hp
  refine c_cutX (fun a w => ∃ y678 : Vector Int 8, y678 = out679 ∧ Ok E I (.blk b493 (.cells ⟨arrC .u32 y678⟩ 163 (0, 0)) :: .blk b13 (.cells ⟨arrC .u32 y364⟩ 165 (0, 0)) :: .blk b10 (.cells ⟨arrC .u32 (Vector.replicate 8 0 : Vector Int 8)⟩ 163 (0, 0)) :: .blk b7 (.cells ⟨arrC .u32 a2⟩ 165 (0, 0)) :: .blk b4 (.cells ⟨arrC .u8 a1⟩ 207 (0, 0)) :: .blk b1 (.cells ⟨arrC .u32 a0⟩ 163 (0, 0)) :: F) w ∧ Fr 188 ([(3, .pointer (some ⟨b1, 0, none⟩)), (6, .pointer (some ⟨b10, 0, none⟩)), (11, .pointer (some ⟨b493, 0, none⟩))]) a) ?_ ?_
  ·refine wp_block <| c_loop <| c_fuel (ref04_Step.l1 a2 y364) out679 (fun (y617, y618) a w => Ok E I (.blk b493 (.cells ⟨arrC .u32 y617⟩ 163 (0, 0)) :: .blk b13 (.cells ⟨arrC .u32 y364⟩ 165 (0, 0)) :: .blk b10 (.cells ⟨arrC .u32 (Vector.replicate 8 0 : Vector Int 8)⟩ 163 (0, 0)) :: .blk b7 (.cells ⟨arrC .u32 a2⟩ 165 (0, 0)) :: .blk b4 (.cells ⟨arrC .u8 a1⟩ 207 (0, 0)) :: .blk b1 (.cells ⟨arrC .u32 a0⟩ 163 (0, 0)) :: F) w ∧ Fr 188 ([(3, .pointer (some ⟨b1, 0, none⟩)), (5, .pointer (some ⟨b7, 0, none⟩)), (6, .pointer (some ⟨b10, 0, none⟩)), (7, .pointer (some ⟨b13, 0, none⟩)), (11, .pointer (some ⟨b493, 0, none⟩)), (12, .int .i64 y618)]) a) (fun _ => rfl) ?_ BIG (a0, 0) _ _ ⟨hw, hf.to ⟨rfl, rfl, rfl, rfl, rfl, rfl, trivial⟩⟩ hp
   intro k st a w hI hp ih
   obtain ⟨y617, y618⟩ := st
   obtain ⟨hw, hf⟩ := hI
   rw [ref04_Step.l1] at hp
   refine wq <| wq <| wr <| om hf rfl rfl fun a hf => oR hf (iC hf rfl rfl rfl) rfl fun a hf => oN <| ct <| cC hf rfl (fun hb682 => ?_) (fun hb682 => ?_)
   ·replace hp := cond_t hb682 hp
    refine wp_skip <| ct <| wq <| wp_block <| wq <| c_drawn mix [] (.rd 0 (.rd 1 (.rd 2 (.rd 3 (.rd 4 (.rd 5 .done)))))) (by kernel_rfl) hw (fun w => Ok E I (.blk b493 (.cells ⟨arrC .u32 y617⟩ 163 (0, 0)) :: .blk b13 (.cells ⟨arrC .u32 y364⟩ 165 (0, 0)) :: .blk b10 (.cells ⟨arrC .u32 (Vector.replicate 8 0 : Vector Int 8)⟩ 163 (0, 0)) :: .blk b7 (.cells ⟨arrC .u32 a2⟩ 165 (0, 0)) :: .blk b4 (.cells ⟨arrC .u8 a1⟩ 207 (0, 0)) :: .blk b1 (.cells ⟨arrC .u32 a0⟩ 163 (0, 0)) :: F) w) (fun w hw => ⟨hw.sub (scc (scc (scc (scc (scc (scc sr)))))), ?_⟩)
    obtain ⟨hg684, hp⟩ := gS hp
    refine tR rfl hf (fun w hw => r_indexAddrA hf el_163 rfl rfl hg684) rfl fun a hf => tR rfl hf (fun w hw => rL hw hf rfl ty_109 0 rfl (arr_at (k := .u32) (v := y617) rfl hg684)) rfl fun a hf => ?_
    obtain ⟨hg685, hp⟩ := gS hp
    refine tR rfl hf (fun w hw => r_indexAddrA hf el_163 rfl rfl hg685) rfl fun a hf => tR rfl hf (fun w hw => rL hw hf rfl ty_109 0 rfl (arr_at (k := .u32) (v := y617) rfl hg685)) rfl fun a hf => tR rfl hf (fun w hw => r_assign hf rfl) rfl fun a hf => tR rfl hf (fun w hw => r_assign hf rfl) rfl fun a hf => t_done <| ct <| wq <| c_drawn mix [] (.rd 0 (.rd 1 (.rd 2 (.rd 4 (.rd 7 (.rd 11 (.rd 12 (.rd 13 (.rd 14 (.rd 15 (.rd 16 (.rd 17 (.rd 18 (.rd 19 (.rd 20 (.rd 22 (.rd 23 (.rd 24 (.rd 26 (.rd 27 (.rd 28 (.ef 3 (.ef 5 (.rd 6 (.ef 8 (.rd 9 (.rd 10 (.rd 21 (.rd 25 (.rd 29 (.rd 30 .done))))))))))))))))))))))))))))))) (by kernel_rfl) hw (fun w => Ok E I (.blk b493 (.cells ⟨arrC .u32 y617⟩ 163 (0, 0)) :: .blk b13 (.cells ⟨arrC .u32 y364⟩ 165 (0, 0)) :: .blk b10 (.cells ⟨arrC .u32 (Vector.replicate 8 0 : Vector Int 8)⟩ 163 (0, 0)) :: .blk b7 (.cells ⟨arrC .u32 a2⟩ 165 (0, 0)) :: .blk b4 (.cells ⟨arrC .u8 a1⟩ 207 (0, 0)) :: .blk b1 (.cells ⟨arrC .u32 a0⟩ 163 (0, 0)) :: F) w) (fun w hw => ⟨hw.sub (scc (scc (scc (scc (scc (scc sr)))))), ?_⟩)
    obtain ⟨hg687, hp⟩ := gS hp
    refine tR rfl hf (fun w hw => r_indexAddrA hf el_163 rfl rfl hg687) rfl fun a hf => tR rfl hf (fun w hw => rL hw hf rfl ty_109 0 rfl (arr_at (k := .u32) (v := y617) rfl hg687)) rfl fun a hf => tm rfl hf rfl rfl fun a hf => tm rfl hf rfl rfl fun a hf => tm rfl hf rfl rfl fun a hf => tm rfl hf rfl rfl fun a hf => ?_
    obtain ⟨hg688, hp⟩ := gS hp
    refine tR rfl hf (fun w hw => r_indexAddrA hf el_163 rfl rfl hg688) rfl fun a hf => tR rfl hf (fun w hw => rL hw hf rfl ty_109 0 rfl (arr_at (k := .u32) (v := y617) rfl hg688)) rfl fun a hf => tR rfl hf (fun w hw => r_and hf rfl rfl) rfl fun a hf => tm rfl hf rfl rfl fun a hf => tR rfl hf (fun w hw => r_cnot hf rfl) rfl fun a hf => ?_
    obtain ⟨hg689, hp⟩ := gS hp
    refine tR rfl hf (fun w hw => r_indexAddrA hf el_163 rfl rfl hg689) rfl fun a hf => tR rfl hf (fun w hw => rL hw hf rfl ty_109 0 rfl (arr_at (k := .u32) (v := y617) rfl hg689)) rfl fun a hf => tR rfl hf (fun w hw => r_and hf rfl rfl) rfl fun a hf => tR rfl hf (fun w hw => r_xor hf rfl rfl) rfl fun a hf => tm rfl hf rfl rfl fun a hf => ?_
    obtain ⟨hg690, hp⟩ := gS hp
    refine tR rfl hf (fun w hw => r_indexAddrA hf el_165 rfl rfl hg690) rfl fun a hf => tR rfl hf (fun w hw => rL hw hf rfl ty_109 3 rfl (arr_at (k := .u32) (v := a2) rfl hg690)) rfl fun a hf => tm rfl hf rfl rfl fun a hf => ?_
    obtain ⟨hg691, hp⟩ := gS hp
    refine tR rfl hf (fun w hw => r_indexAddrA hf el_165 rfl rfl hg691) rfl fun a hf => tR rfl hf (fun w hw => rL hw hf rfl ty_109 1 rfl (arr_at (k := .u32) (v := y364) rfl hg691)) rfl fun a hf => t_ef rfl ?_
    obtain ⟨y692, hy693, hp⟩ := bS hp
    have hc695 := ref04_turn_ok hw hG hy693
    refine t_call hf cb_146 rfl rfl hc695 (fun v697 w a hK696 hf => ?_)
    obtain ⟨rfl, hw⟩ := hK696
    refine ⟨.inr (hw.back (IH.le_refl _) (scc (scc (scc (scc (scc (scc sr))))))), ?_⟩
    refine t_ef rfl ?_
    obtain ⟨y698, hy699, hp⟩ := bS hp
    have hc701 := ref04_turn_ok hw hG hy699
    refine t_call hf cb_146 rfl rfl hc701 (fun v703 w a hK702 hf => ?_)
    obtain ⟨rfl, hw⟩ := hK702
    refine ⟨.inr (hw.back (IH.le_refl _) (scc (scc (scc (scc (scc (scc sr))))))), ?_⟩
    refine tR rfl hf (fun w hw => r_xor hf rfl rfl) rfl fun a hf => t_ef rfl ?_
    obtain ⟨y704, hy705, hp⟩ := bS hp
    have hc707 := ref04_turn_ok hw hG hy705
    refine t_call hf cb_146 rfl rfl hc707 (fun v709 w a hK708 hf => ?_)
    obtain ⟨rfl, hw⟩ := hK708
    refine ⟨.inr (hw.back (IH.le_refl _) (scc (scc (scc (scc (scc (scc sr))))))), ?_⟩
    refine tR rfl hf (fun w hw => r_xor hf rfl rfl) rfl fun a hf => tR rfl hf (fun w hw => r_add hf rfl rfl) rfl fun a hf => tR rfl hf (fun w hw => r_add hf rfl rfl) rfl fun a hf => tR rfl hf (fun w hw => r_add hf rfl rfl) rfl fun a hf => tR rfl hf (fun w hw => r_add hf rfl rfl) rfl fun a hf => tR rfl hf (fun w hw => r_assign hf rfl) rfl fun a hf => t_done <| ct <| wq <| c_drawn mix [] (.rd 0 (.rd 2 (.rd 5 (.rd 8 (.rd 9 (.rd 10 (.rd 11 (.rd 12 (.rd 13 (.rd 14 (.rd 15 (.rd 16 (.rd 17 (.rd 18 (.rd 19 (.rd 20 (.rd 21 (.rd 22 (.ef 1 (.ef 3 (.rd 4 (.ef 6 (.rd 7 (.rd 23 (.rd 24 .done))))))))))))))))))))))))) (by kernel_rfl) hw (fun w => Ok E I (.blk b493 (.cells ⟨arrC .u32 y617⟩ 163 (0, 0)) :: .blk b13 (.cells ⟨arrC .u32 y364⟩ 165 (0, 0)) :: .blk b10 (.cells ⟨arrC .u32 (Vector.replicate 8 0 : Vector Int 8)⟩ 163 (0, 0)) :: .blk b7 (.cells ⟨arrC .u32 a2⟩ 165 (0, 0)) :: .blk b4 (.cells ⟨arrC .u8 a1⟩ 207 (0, 0)) :: .blk b1 (.cells ⟨arrC .u32 a0⟩ 163 (0, 0)) :: F) w) (fun w hw => ⟨hw.sub (scc (scc (scc (scc (scc (scc sr)))))), ?_⟩)
    refine tm rfl hf rfl rfl fun a hf => tm rfl hf rfl rfl fun a hf => tm rfl hf rfl rfl fun a hf => tm rfl hf rfl rfl fun a hf => ?_
    obtain ⟨hg711, hp⟩ := gS hp
    refine tR rfl hf (fun w hw => r_indexAddrA hf el_163 rfl rfl hg711) rfl fun a hf => tR rfl hf (fun w hw => rL hw hf rfl ty_109 0 rfl (arr_at (k := .u32) (v := y617) rfl hg711)) rfl fun a hf => tR rfl hf (fun w hw => r_and hf rfl rfl) rfl fun a hf => tm rfl hf rfl rfl fun a hf => ?_
    obtain ⟨hg712, hp⟩ := gS hp
    refine tR rfl hf (fun w hw => r_indexAddrA hf el_163 rfl rfl hg712) rfl fun a hf => tR rfl hf (fun w hw => rL hw hf rfl ty_109 0 rfl (arr_at (k := .u32) (v := y617) rfl hg712)) rfl fun a hf => tR rfl hf (fun w hw => r_and hf rfl rfl) rfl fun a hf => tR rfl hf (fun w hw => r_xor hf rfl rfl) rfl fun a hf => ?_
    obtain ⟨hg713, hp⟩ := gS hp
    refine tR rfl hf (fun w hw => r_indexAddrA hf el_163 rfl rfl hg713) rfl fun a hf => tR rfl hf (fun w hw => rL hw hf rfl ty_109 0 rfl (arr_at (k := .u32) (v := y617) rfl hg713)) rfl fun a hf => ?_
    obtain ⟨hg714, hp⟩ := gS hp
    refine tR rfl hf (fun w hw => r_indexAddrA hf el_163 rfl rfl hg714) rfl fun a hf => tR rfl hf (fun w hw => rL hw hf rfl ty_109 0 rfl (arr_at (k := .u32) (v := y617) rfl hg714)) rfl fun a hf => tR rfl hf (fun w hw => r_and hf rfl rfl) rfl fun a hf => tR rfl hf (fun w hw => r_xor hf rfl rfl) rfl fun a hf => t_ef rfl ?_
    obtain ⟨y715, hy716, hp⟩ := bS hp
    have hc718 := ref04_turn_ok hw hG hy716
    refine t_call hf cb_146 rfl rfl hc718 (fun v720 w a hK719 hf => ?_)
    obtain ⟨rfl, hw⟩ := hK719
    refine ⟨.inr (hw.back (IH.le_refl _) (scc (scc (scc (scc (scc (scc sr))))))), ?_⟩
    refine t_ef rfl ?_
    obtain ⟨y721, hy722, hp⟩ := bS hp
    have hc724 := ref04_turn_ok hw hG hy722
    refine t_call hf cb_146 rfl rfl hc724 (fun v726 w a hK725 hf => ?_)
    obtain ⟨rfl, hw⟩ := hK725
    refine ⟨.inr (hw.back (IH.le_refl _) (scc (scc (scc (scc (scc (scc sr))))))), ?_⟩
    refine tR rfl hf (fun w hw => r_xor hf rfl rfl) rfl fun a hf => t_ef rfl ?_
    obtain ⟨y727, hy728, hp⟩ := bS hp
    have hc730 := ref04_turn_ok hw hG hy728
    refine t_call hf cb_146 rfl rfl hc730 (fun v732 w a hK731 hf => ?_)
    obtain ⟨rfl, hw⟩ := hK731
    refine ⟨.inr (hw.back (IH.le_refl _) (scc (scc (scc (scc (scc (scc sr))))))), ?_⟩
    refine tR rfl hf (fun w hw => r_xor hf rfl rfl) rfl fun a hf => tR rfl hf (fun w hw => r_add hf rfl rfl) rfl fun a hf => tR rfl hf (fun w hw => r_assign hf rfl) rfl fun a hf => t_done <| ct <| wr <| om hf rfl rfl fun a hf => om hf rfl rfl fun a hf => oR hf (r_add hf rfl rfl) rfl fun a hf => ?_
    obtain ⟨hg733, hp⟩ := gS hp
    refine oR hf (r_indexAddrA hf el_163 rfl rfl hg733) rfl fun a hf => oR hf (rL hw hf rfl ty_109 0 rfl (arr_at (k := .u32) (v := y617) rfl hg733)) rfl fun a hf => ?_
    obtain ⟨hg734, hp⟩ := gS hp
    refine oR hf (r_indexAddrA hf el_163 rfl rfl hg734) rfl fun a hf => oR hf (rL hw hf rfl ty_109 0 rfl (arr_at (k := .u32) (v := y617) rfl hg734)) rfl fun a hf => ?_
    obtain ⟨hg735, hp⟩ := gS hp
    refine oR hf (r_indexAddrA hf el_163 rfl rfl hg735) rfl fun a hf => oR hf (rL hw hf rfl ty_109 0 rfl (arr_at (k := .u32) (v := y617) rfl hg735)) rfl fun a hf => ?_
    obtain ⟨hg736, hp⟩ := gS hp
    refine oR hf (r_indexAddrA hf el_163 rfl rfl hg736) rfl fun a hf => oR hf (rL hw hf rfl ty_109 0 rfl (arr_at (k := .u32) (v := y617) rfl hg736)) rfl fun a hf => om hf rfl rfl fun a hf => oR hf (r_add hf rfl rfl) rfl fun a hf => ?_
    obtain ⟨hg737, hp⟩ := gS hp
    refine oR hf (r_indexAddrA hf el_163 rfl rfl hg737) rfl fun a hf => oR hf (rL hw hf rfl ty_109 0 rfl (arr_at (k := .u32) (v := y617) rfl hg737)) rfl fun a hf => ?_
    obtain ⟨hg738, hp⟩ := gS hp
    refine oR hf (r_indexAddrA hf el_163 rfl rfl hg738) rfl fun a hf => oR hf (rL hw hf rfl ty_109 0 rfl (arr_at (k := .u32) (v := y617) rfl hg738)) rfl fun a hf => ?_
    obtain ⟨hg739, hp⟩ := gS hp
    refine oR hf (r_indexAddrA hf el_163 rfl rfl hg739) rfl fun a hf => oR hf (rL hw hf rfl ty_109 0 rfl (arr_at (k := .u32) (v := y617) rfl hg739)) rfl fun a hf => oR hf (r_buildArr hf el_163 ty_163 rfl rfl rfl (v := (#v[wu32 ((wu32 ((wu32 ((wu32 ((wu32 ((vg y617 7) + (bxor .u32 (bxor .u32 y692 y698) y704))) + (bxor .u32 (band .u32 (vg y617 4) (vg y617 5)) (band .u32 (bxor .u32 (if IntKind.signed .u32 then -1 else IntKind.max .u32) (vg y617 4)) (vg y617 6))))) + (vg a2 y618))) + (vg y364 y618))) + (wu32 ((bxor .u32 (bxor .u32 y715 y721) y727) + (bxor .u32 (bxor .u32 (band .u32 (vg y617 0) (vg y617 1)) (band .u32 (vg y617 0) (vg y617 2))) (band .u32 (vg y617 1) (vg y617 2)))))), vg y617 0, vg y617 1, vg y617 2, wu32 ((vg y617 3) + (wu32 ((wu32 ((wu32 ((wu32 ((vg y617 7) + (bxor .u32 (bxor .u32 y692 y698) y704))) + (bxor .u32 (band .u32 (vg y617 4) (vg y617 5)) (band .u32 (bxor .u32 (if IntKind.signed .u32 then -1 else IntKind.max .u32) (vg y617 4)) (vg y617 6))))) + (vg a2 y618))) + (vg y364 y618)))), vg y617 4, vg y617 5, vg y617 6] : Vector Int 8)) rfl) rfl fun a hf => ?_
    obtain ⟨w, hrun740, hw⟩ := e_store (P := P) hw hf (x := .tmp 11) (y := .tmp 174) rfl rfl ty_163 0 rfl (vs := (arrC .u32 (#v[wu32 ((wu32 ((wu32 ((wu32 ((wu32 ((vg y617 7) + (bxor .u32 (bxor .u32 y692 y698) y704))) + (bxor .u32 (band .u32 (vg y617 4) (vg y617 5)) (band .u32 (bxor .u32 (if IntKind.signed .u32 then -1 else IntKind.max .u32) (vg y617 4)) (vg y617 6))))) + (vg a2 y618))) + (vg y364 y618))) + (wu32 ((bxor .u32 (bxor .u32 y715 y721) y727) + (bxor .u32 (bxor .u32 (band .u32 (vg y617 0) (vg y617 1)) (band .u32 (vg y617 0) (vg y617 2))) (band .u32 (vg y617 1) (vg y617 2)))))), vg y617 0, vg y617 1, vg y617 2, wu32 ((vg y617 3) + (wu32 ((wu32 ((wu32 ((wu32 ((vg y617 7) + (bxor .u32 (bxor .u32 y692 y698) y704))) + (bxor .u32 (band .u32 (vg y617 4) (vg y617 5)) (band .u32 (bxor .u32 (if IntKind.signed .u32 then -1 else IntKind.max .u32) (vg y617 4)) (vg y617 6))))) + (vg a2 y618))) + (vg y364 y618)))), vg y617 4, vg y617 5, vg y617 6] : Vector Int 8))) rfl (by simp [arrC_len]) (arrC_one _ _) (by simp [arrC_len]) (cs' := (arrC .u32 (#v[wu32 ((wu32 ((wu32 ((wu32 ((wu32 ((vg y617 7) + (bxor .u32 (bxor .u32 y692 y698) y704))) + (bxor .u32 (band .u32 (vg y617 4) (vg y617 5)) (band .u32 (bxor .u32 (if IntKind.signed .u32 then -1 else IntKind.max .u32) (vg y617 4)) (vg y617 6))))) + (vg a2 y618))) + (vg y364 y618))) + (wu32 ((bxor .u32 (bxor .u32 y715 y721) y727) + (bxor .u32 (bxor .u32 (band .u32 (vg y617 0) (vg y617 1)) (band .u32 (vg y617 0) (vg y617 2))) (band .u32 (vg y617 1) (vg y617 2)))))), vg y617 0, vg y617 1, vg y617 2, wu32 ((vg y617 3) + (wu32 ((wu32 ((wu32 ((wu32 ((vg y617 7) + (bxor .u32 (bxor .u32 y692 y698) y704))) + (bxor .u32 (band .u32 (vg y617 4) (vg y617 5)) (band .u32 (bxor .u32 (if IntKind.signed .u32 then -1 else IntKind.max .u32) (vg y617 4)) (vg y617 6))))) + (vg a2 y618))) + (vg y364 y618)))), vg y617 4, vg y617 5, vg y617 6] : Vector Int 8))) (by simp [arrC_len])
    dsimp only [List.set] at hw
    refine o_effU (hrun740 ..) <| oN <| c_blockN <| ct <| wr <| om hf rfl rfl fun a hf => oR hf (r_add hf rfl rfl) rfl fun a hf => oa hf rfl rfl fun a hf => oN <| ct ?_
    exact ih ((#v[wu32 ((wu32 ((wu32 ((wu32 ((wu32 ((vg y617 7) + (bxor .u32 (bxor .u32 y692 y698) y704))) + (bxor .u32 (band .u32 (vg y617 4) (vg y617 5)) (band .u32 (bxor .u32 (if IntKind.signed .u32 then -1 else IntKind.max .u32) (vg y617 4)) (vg y617 6))))) + (vg a2 y618))) + (vg y364 y618))) + (wu32 ((bxor .u32 (bxor .u32 y715 y721) y727) + (bxor .u32 (bxor .u32 (band .u32 (vg y617 0) (vg y617 1)) (band .u32 (vg y617 0) (vg y617 2))) (band .u32 (vg y617 1) (vg y617 2)))))), vg y617 0, vg y617 1, vg y617 2, wu32 ((vg y617 3) + (wu32 ((wu32 ((wu32 ((wu32 ((vg y617 7) + (bxor .u32 (bxor .u32 y692 y698) y704))) + (bxor .u32 (band .u32 (vg y617 4) (vg y617 5)) (band .u32 (bxor .u32 (if IntKind.signed .u32 then -1 else IntKind.max .u32) (vg y617 4)) (vg y617 6))))) + (vg a2 y618))) + (vg y364 y618)))), vg y617 4, vg y617 5, vg y617 6] : Vector Int 8), w64 (y618 + 1)) _ _ ⟨hw, hf.to ⟨rfl, rfl, rfl, rfl, rfl, rfl, trivial⟩⟩ hp
   ·replace hp := cond_f hb682 hp
    refine wp_exit <| c_thenE <| c_thenE <| c_exit <| ct ?_
    have ho := oI hp
    subst ho
    exact ⟨y617, rfl, hw, hf.to ⟨rfl, rfl, rfl, trivial⟩⟩
  ·intro a w hM
   obtain ⟨y678, rfl, hw, hf⟩ := hM
   replace hp := hq680
   refine ct <| wq <| wq <| wr <| oa hf rfl rfl fun a hf => oN <| ct ?_
   obtain ⟨out765, hp, hq766⟩ := bS hp
   refine c_cutX (fun a w => ∃ y764 : Vector Int 8, y764 = out765 ∧ Ok E I (.blk b493 (.cells ⟨arrC .u32 y678⟩ 163 (0, 0)) :: .blk b13 (.cells ⟨arrC .u32 y364⟩ 165 (0, 0)) :: .blk b10 (.cells ⟨arrC .u32 (Vector.replicate 8 0 : Vector Int 8)⟩ 163 (0, 0)) :: .blk b7 (.cells ⟨arrC .u32 a2⟩ 165 (0, 0)) :: .blk b4 (.cells ⟨arrC .u8 a1⟩ 207 (0, 0)) :: .blk b1 (.cells ⟨arrC .u32 y764⟩ 163 (0, 0)) :: F) w ∧ Fr 188 ([(3, .pointer (some ⟨b1, 0, none⟩)), (6, .pointer (some ⟨b10, 0, none⟩))]) a) ?_ ?_
   ·refine wp_block <| c_loop <| c_fuel (ref04_Step.l2 y678) out765 (fun (y756, y757) a w => Ok E I (.blk b493 (.cells ⟨arrC .u32 y678⟩ 163 (0, 0)) :: .blk b13 (.cells ⟨arrC .u32 y364⟩ 165 (0, 0)) :: .blk b10 (.cells ⟨arrC .u32 (Vector.replicate 8 0 : Vector Int 8)⟩ 163 (0, 0)) :: .blk b7 (.cells ⟨arrC .u32 a2⟩ 165 (0, 0)) :: .blk b4 (.cells ⟨arrC .u8 a1⟩ 207 (0, 0)) :: .blk b1 (.cells ⟨arrC .u32 y756⟩ 163 (0, 0)) :: F) w ∧ Fr 188 ([(3, .pointer (some ⟨b1, 0, none⟩)), (6, .pointer (some ⟨b10, 0, none⟩)), (11, .pointer (some ⟨b493, 0, none⟩)), (17, .int .i64 y757)]) a) (fun _ => rfl) ?_ BIG (a0, 0) _ _ ⟨hw, hf.to ⟨rfl, rfl, rfl, rfl, trivial⟩⟩ hp
    intro k st a w hI hp ih
    obtain ⟨y756, y757⟩ := st
    obtain ⟨hw, hf⟩ := hI
    rw [ref04_Step.l2] at hp
    refine wq <| wq <| wr <| om hf rfl rfl fun a hf => oR hf (iC hf rfl rfl rfl) rfl fun a hf => oN <| ct <| cC hf rfl (fun hb768 => ?_) (fun hb768 => ?_)
    ·replace hp := cond_t hb768 hp
     refine wp_skip <| ct <| wq <| wp_block <| c_drawn mix [8] (.rd 0 (.rd 1 (.rd 2 (.rd 3 (.rd 4 (.rd 5 (.rd 6 (.rd 7 (.ef 8 .done))))))))) (by kernel_rfl) hw (fun w => Ok E I (.blk b493 (.cells ⟨arrC .u32 y678⟩ 163 (0, 0)) :: .blk b13 (.cells ⟨arrC .u32 y364⟩ 165 (0, 0)) :: .blk b10 (.cells ⟨arrC .u32 (Vector.replicate 8 0 : Vector Int 8)⟩ 163 (0, 0)) :: .blk b7 (.cells ⟨arrC .u32 a2⟩ 165 (0, 0)) :: .blk b4 (.cells ⟨arrC .u8 a1⟩ 207 (0, 0)) :: .blk b1 (.cells ⟨arrC .u32 y756⟩ 163 (0, 0)) :: F) w) (fun w hw => ⟨hw.sub (scc (scc (scc (scc (scc (scc sr)))))), ?_⟩)
     refine tm rfl hf rfl rfl fun a hf => ?_
     obtain ⟨hg770, hp⟩ := gS hp
     refine tR rfl hf (fun w hw => r_indexAddrA hf el_163 rfl rfl hg770) rfl fun a hf => tR rfl hf (fun w hw => rL hw hf rfl ty_109 5 rfl (arr_at (k := .u32) (v := y756) rfl hg770)) rfl fun a hf => tm rfl hf rfl rfl fun a hf => ?_
     obtain ⟨hg771, hp⟩ := gS hp
     refine tR rfl hf (fun w hw => r_indexAddrA hf el_163 rfl rfl hg771) rfl fun a hf => tR rfl hf (fun w hw => rL hw hf rfl ty_109 0 rfl (arr_at (k := .u32) (v := y678) rfl hg771)) rfl fun a hf => tR rfl hf (fun w hw => r_add hf rfl rfl) rfl fun a hf => ?_
     obtain ⟨hg772, hp⟩ := gS hp
     refine tR rfl hf (fun w hw => r_indexAddrA hf el_163 rfl rfl hg772) rfl fun a hf => t_ef rfl ?_
     obtain ⟨w, hrun773, hw⟩ := e_store (P := P) hw hf (x := .tmp 186) (y := .tmp 185) rfl rfl ty_109 5 rfl (vs := [.int .u32 (wu32 ((vg y756 y757) + (vg y678 y757)))]) rfl rfl (oC rfl ones_nil) (by first | (simp [arrC_len] <;> omega) | (have h := hg772; try (simp only [w64, wu8, wu16, wu32, wu64] at h); simp only [List.length_cons, arrC_len]; omega)) (cs' := (arrC .u32 (vset y756 y757 (wu32 ((vg y756 y757) + (vg y678 y757)))))) (arr_store (pre := ([] : List Value)) (v := y756) rfl rfl rfl hg772)
     dsimp only [List.set] at hw
     refine t_effU (hrun773 ..) ⟨.inl rfl, ?_⟩
     refine t_done <| c_blockN <| ct <| wr <| om hf rfl rfl fun a hf => oR hf (r_add hf rfl rfl) rfl fun a hf => oa hf rfl rfl fun a hf => oN <| ct ?_
     exact ih (vset y756 y757 (wu32 ((vg y756 y757) + (vg y678 y757))), w64 (y757 + 1)) _ _ ⟨hw, hf.to ⟨rfl, rfl, rfl, rfl, trivial⟩⟩ hp
    ·replace hp := cond_f hb768 hp
     refine wp_exit <| c_thenE <| c_thenE <| c_exit <| ct ?_
     have ho := oI hp
     subst ho
     exact ⟨y756, rfl, hw, hf.to ⟨rfl, rfl, trivial⟩⟩
   ·intro a w hM
    obtain ⟨y764, rfl, hw, hf⟩ := hM
    replace hp := hq766
    refine ct <| wq <| wr <| oR hf (r_loadA hw hf rfl ty_163 5 rfl (vs := (arrC .u32 y764)) (take_all (by simp [arrC_len])) (by simp [arrC_len])) rfl fun a hf => ?_
    obtain ⟨w, hrun775, hw⟩ := e_store (P := P) hw hf (x := .tmp 6) (y := .tmp 187) rfl rfl ty_163 2 rfl (vs := (arrC .u32 y764)) rfl (by simp [arrC_len]) (arrC_one _ _) (by simp [arrC_len]) (cs' := (arrC .u32 y764)) (by simp [arrC_len])
    dsimp only [List.set] at hw
    refine o_effU (hrun775 ..) <| oN <| ct <| wp_ret ?_
    replace hw : Ok E I (.blk b10 (.cells ⟨arrC .u32 y764⟩ 163 (0, 0)) :: F) w := hw.sub (sc (sc (scc (sc (sc (sc sr))))))
    have ho := oI hp
    subst ho
    exact b_retC hw hf results112 ty_163 rfl 0 rfl (vs := (arrC .u32 y764)) (take_all (by simp [arrC_len])) (by simp [arrC_len]) ⟨_, rfl, ⟨rfl, hw.tail⟩⟩

theorem ref04_With_ok {E : World} {I : IH} {F : List Atom} {w : World} {a0 : ByteArray} {a1 : Vector Int 8} {a2 : Vector Int 64} {res0 : ByteArray} (hw : Ok E I (F) w) (hG : Gl I) (hp : ref04_With.f a0 a1 a2 = some res0) :
  Calls P 75 ⟨[Value.string a0, Value.agg ⟨arrC .u32 a1⟩, Value.agg ⟨arrC .u32 a2⟩]⟩ w fun e w' => ∃ v, e = .returned v ∧ v = Value.string res0 ∧ Ok E I (F) w' := by
 refine c_enter func75 rfl ntmps75 rfl fun a hf => ?_
 replace hf : Fr 67 [(0, .string a0), (1, Value.agg ⟨arrC .u32 a1⟩), (2, Value.agg ⟨arrC .u32 a2⟩)] a := hf
 unfold ref04_With.f at hp
 refine wq <| wr ?_
 obtain ⟨b1, w, hrun2, hw⟩ := e_box (P := P) hw hf (e := 163) (x := .tmp 1) rfl (cs := (arrC .u32 a1)) rfl
 refine o_eff hf (hrun2 ..) rfl fun a hf => ?_
 obtain ⟨b4, w, hrun5, hw⟩ := e_box (P := P) hw hf (e := 165) (x := .tmp 2) rfl (cs := (arrC .u32 a2)) rfl
 refine o_eff hf (hrun5 ..) rfl fun a hf => oa hf rfl rfl fun a hf => oN <| ct <| wq <| wr <| om hf rfl rfl fun a hf => om hf rfl rfl fun a hf => oR hf (r_lenS hf und_9 rfl) rfl fun a hf => ?_
 obtain ⟨y146, hy147, hp⟩ := bS hp
 have hc149 := ref04_Pad_ok hw hG hy147
 refine o_call hf cb_111 rfl rfl hc149 (fun v151 w a hK150 hf => ?_)
 obtain ⟨rfl, hw⟩ := hK150
 obtain ⟨hg152, hp⟩ := gS hp
 refine oR hf (r_sadd hf rfl rfl hg152) rfl fun a hf => oa hf rfl rfl fun a hf => oN <| ct <| wq <| wq <| wr <| oa hf rfl rfl fun a hf => oN <| ct ?_
 obtain ⟨out860, hp, hq861⟩ := bS hp
 refine c_cutX (fun a w => ∃ y859 : Vector Int 8, y859 = out860 ∧ Ok E I (.blk b4 (.cells ⟨arrC .u32 a2⟩ 165 (0, 0)) :: .blk b1 (.cells ⟨arrC .u32 y859⟩ 163 (0, 0)) :: F) w ∧ Fr 67 ([(4, .pointer (some ⟨b1, 0, none⟩))]) a) ?_ ?_
 ·refine wp_block <| c_loop <| c_fuel (ref04_With.l0 a0 a2 y146) out860 (fun (y821, y822) a w => Ok E I (.blk b4 (.cells ⟨arrC .u32 a2⟩ 165 (0, 0)) :: .blk b1 (.cells ⟨arrC .u32 y821⟩ 163 (0, 0)) :: F) w ∧ Fr 67 ([(4, .pointer (some ⟨b1, 0, none⟩)), (5, .pointer (some ⟨b4, 0, none⟩)), (7, .string (a0 ++ y146)), (8, .int .i64 y822)]) a) (fun _ => rfl) ?_ BIG (a1, 0) _ _ ⟨hw, hf.to ⟨rfl, rfl, rfl, rfl, trivial⟩⟩ hp
  intro k st a w hI hp ih
  obtain ⟨y821, y822⟩ := st
  obtain ⟨hw, hf⟩ := hI
  rw [ref04_With.l0] at hp
  refine wq <| wq <| wr <| om hf rfl rfl fun a hf => om hf rfl rfl fun a hf => oR hf (r_lenS hf und_9 rfl) rfl fun a hf => oR hf (iC hf rfl rfl rfl) rfl fun a hf => oN <| ct <| cC hf rfl (fun hb863 => ?_) (fun hb863 => ?_)
  ·replace hp := cond_t hb863 hp
   refine wp_skip <| ct <| wq <| wp_block <| wq <| wr ?_
   obtain ⟨b864, w, hrun865, hw⟩ := e_alloc (P := P) (a := a) hw ty_207
   refine o_eff hf (hrun865 ..) rfl fun a hf => oN <| ct <| wq <| wq <| wr <| oa hf rfl rfl fun a hf => oN <| ct ?_
   obtain ⟨out884, hp, hq885⟩ := bS hp
   refine c_cutX (fun a w => ∃ y883 : Vector Int 64, y883 = out884 ∧ Ok E I (.blk b864 (.cells ⟨arrC .u8 y883⟩ 207 (0, 0)) :: .blk b4 (.cells ⟨arrC .u32 a2⟩ 165 (0, 0)) :: .blk b1 (.cells ⟨arrC .u32 y821⟩ 163 (0, 0)) :: F) w ∧ Fr 67 ([(4, .pointer (some ⟨b1, 0, none⟩)), (5, .pointer (some ⟨b4, 0, none⟩)), (7, .string (a0 ++ y146)), (8, .int .i64 y822), (9, .pointer (some ⟨b864, 0, none⟩))]) a) ?_ ?_
   ·refine wp_block <| c_loop <| c_fuel (ref04_With.l1 a0 y146 y822) out884 (fun (y877, y878) a w => Ok E I (.blk b864 (.cells ⟨arrC .u8 y877⟩ 207 (0, 0)) :: .blk b4 (.cells ⟨arrC .u32 a2⟩ 165 (0, 0)) :: .blk b1 (.cells ⟨arrC .u32 y821⟩ 163 (0, 0)) :: F) w ∧ Fr 67 ([(4, .pointer (some ⟨b1, 0, none⟩)), (5, .pointer (some ⟨b4, 0, none⟩)), (7, .string (a0 ++ y146)), (8, .int .i64 y822), (9, .pointer (some ⟨b864, 0, none⟩)), (10, .int .i64 y878)]) a) (fun _ => rfl) ?_ BIG ((Vector.replicate 64 0 : Vector Int 64), 0) _ _ ⟨hw, hf.to ⟨rfl, rfl, rfl, rfl, rfl, rfl, trivial⟩⟩ hp
    intro k st a w hI hp ih
    obtain ⟨y877, y878⟩ := st
    obtain ⟨hw, hf⟩ := hI
    rw [ref04_With.l1] at hp
    refine wq <| wq <| wr <| om hf rfl rfl fun a hf => oR hf (iC hf rfl rfl rfl) rfl fun a hf => oN <| ct <| cC hf rfl (fun hb887 => ?_) (fun hb887 => ?_)
    ·replace hp := cond_t hb887 hp
     refine wp_skip <| ct <| wq <| wp_block <| wr <| om hf rfl rfl fun a hf => om hf rfl rfl fun a hf => om hf rfl rfl fun a hf => om hf rfl rfl fun a hf => oR hf (r_add hf rfl rfl) rfl fun a hf => ?_
     obtain ⟨hg888, hp⟩ := gS hp
     refine oR hf (r_indexS hf und_9 rfl rfl hg888) rfl fun a hf => ?_
     obtain ⟨hg889, hp⟩ := gS hp
     refine oR hf (r_indexAddrA hf el_207 rfl rfl hg889) rfl fun a hf => ?_
     obtain ⟨w, hrun890, hw⟩ := e_store (P := P) hw hf (x := .tmp 34) (y := .tmp 33) rfl rfl ty_5 0 rfl (vs := [.int .u8 (bt (a0 ++ y146) (w64 (y822 + y878)))]) rfl rfl (oC rfl ones_nil) (by first | (simp [arrC_len] <;> omega) | (have h := hg889; try (simp only [w64, wu8, wu16, wu32, wu64] at h); simp only [List.length_cons, arrC_len]; omega)) (cs' := (arrC .u8 (vset y877 y878 (bt (a0 ++ y146) (w64 (y822 + y878)))))) (arr_store (pre := ([] : List Value)) (v := y877) rfl rfl rfl hg889)
     dsimp only [List.set] at hw
     refine o_effU (hrun890 ..) <| oN <| c_blockN <| ct <| wr <| om hf rfl rfl fun a hf => oR hf (r_add hf rfl rfl) rfl fun a hf => oa hf rfl rfl fun a hf => oN <| ct ?_
     exact ih (vset y877 y878 (bt (a0 ++ y146) (w64 (y822 + y878))), w64 (y878 + 1)) _ _ ⟨hw, hf.to ⟨rfl, rfl, rfl, rfl, rfl, rfl, trivial⟩⟩ hp
    ·replace hp := cond_f hb887 hp
     refine wp_exit <| c_thenE <| c_thenE <| c_exit <| ct ?_
     have ho := oI hp
     subst ho
     exact ⟨y877, rfl, hw, hf.to ⟨rfl, rfl, rfl, rfl, rfl, trivial⟩⟩
   ·intro a w hM
    obtain ⟨y883, rfl, hw, hf⟩ := hM
    replace hp := hq885
    refine ct <| wr <| oR hf (r_loadA hw hf rfl ty_163 2 rfl (vs := (arrC .u32 y821)) (take_all (by simp [arrC_len])) (by simp [arrC_len])) rfl fun a hf => oR hf (r_loadA hw hf rfl ty_207 0 rfl (vs := (arrC .u8 y883)) (take_all (by simp [arrC_len])) (by simp [arrC_len])) rfl fun a hf => oR hf (r_loadA hw hf rfl ty_165 1 rfl (vs := (arrC .u32 a2)) (take_all (by simp [arrC_len])) (by simp [arrC_len])) rfl fun a hf => ?_
    obtain ⟨y892, hy893, hp⟩ := bS hp
    have hc895 := ref04_Step_ok hw hG hy893
    refine o_call hf cb_112 rfl rfl hc895 (fun v897 w a hK896 hf => ?_)
    obtain ⟨rfl, hw⟩ := hK896
    obtain ⟨w, hrun898, hw⟩ := e_store (P := P) hw hf (x := .tmp 4) (y := .tmp 38) rfl rfl ty_163 2 rfl (vs := (arrC .u32 y892)) rfl (by simp [arrC_len]) (arrC_one _ _) (by simp [arrC_len]) (cs' := (arrC .u32 y892)) (by simp [arrC_len])
    dsimp only [List.set] at hw
    refine o_effU (hrun898 ..) <| oN <| c_blockN <| ct <| wr <| om hf rfl rfl fun a hf => oR hf (r_add hf rfl rfl) rfl fun a hf => oa hf rfl rfl fun a hf => oN <| ct ?_
    replace hw : Ok E I (.blk b4 (.cells ⟨arrC .u32 a2⟩ 165 (0, 0)) :: .blk b1 (.cells ⟨arrC .u32 y892⟩ 163 (0, 0)) :: F) w := hw.sub (sc (scc (scc sr)))
    exact ih (y892, w64 (y822 + 64)) _ _ ⟨hw, hf.to ⟨rfl, rfl, rfl, rfl, trivial⟩⟩ hp
  ·replace hp := cond_f hb863 hp
   refine wp_exit <| c_thenE <| c_thenE <| c_exit <| ct ?_
   have ho := oI hp
   subst ho
   exact ⟨y821, rfl, hw, hf.to ⟨rfl, trivial⟩⟩
 ·intro a w hM
  obtain ⟨y859, rfl, hw, hf⟩ := hM
  replace hp := hq861
  refine ct <| wq <| wr <| oa hf rfl rfl fun a hf => oN <| ct <| wq <| wq <| wr <| oa hf rfl rfl fun a hf => oN <| ct ?_
  replace hw := hw.nilrow 5 1
  have hRR920 : RowR (ekI .u8) I [] [] := RowR.nil
  obtain ⟨out989, hp, hq990⟩ := bS hp
  refine c_cutX (fun a w => ∃ y984 : List Int, ∃ yv985 : Value, ∃ m986 : Nat, ∃ cs987 : List Value, y984 = out989 ∧ Ok E I (.row yv985 5 1 m986 cs987 :: .blk b4 (.cells ⟨arrC .u32 a2⟩ 165 (0, 0)) :: .blk b1 (.cells ⟨arrC .u32 y859⟩ 163 (0, 0)) :: F) w ∧ Fr 67 ([(11, yv985)]) a ∧ RowR (ekI .u8) I cs987 y984) ?_ ?_
  ·refine wp_block <| c_loop <| c_fuel (ref04_With.l2 y859) out989 (fun (y961, y966) a w => ∃ yv962 : Value, ∃ m963 : Nat, ∃ cs964 : List Value, Ok E I (.row yv962 5 1 m963 cs964 :: .blk b4 (.cells ⟨arrC .u32 a2⟩ 165 (0, 0)) :: .blk b1 (.cells ⟨arrC .u32 y859⟩ 163 (0, 0)) :: F) w ∧ Fr 67 ([(4, .pointer (some ⟨b1, 0, none⟩)), (11, yv962), (12, .int .i64 y966)]) a ∧ RowR (ekI .u8) I cs964 y961) (fun _ => rfl) ?_ BIG (([] : List Int), 0) _ _ ⟨(.slice none 0 0), 0, [], hw, hf.to ⟨rfl, rfl, rfl, trivial⟩, hRR920⟩ hp
   intro k st a w hI hp ih
   obtain ⟨y961, y966⟩ := st
   obtain ⟨yv962, m963, cs964, hw, hf, hRR965⟩ := hI
   rw [ref04_With.l2] at hp
   refine wq <| wq <| wr <| om hf rfl rfl fun a hf => oR hf (iC hf rfl rfl rfl) rfl fun a hf => oN <| ct <| cC hf rfl (fun hb992 => ?_) (fun hb992 => ?_)
   ·replace hp := cond_t hb992 hp
    refine wp_skip <| ct <| wq <| wp_block <| c_drawn mix [] (.rd 0 (.rd 1 (.rd 2 (.rd 3 (.rd 4 (.rd 5 (.rd 6 (.rd 7 (.rd 8 (.rd 9 (.rd 10 (.rd 11 (.rd 12 (.rd 13 (.rd 14 (.rd 15 (.rd 16 (.rd 17 (.rd 18 (.rd 19 (.ef 20 (.ef 21 (.rd 22 .done))))))))))))))))))))))) (by kernel_rfl) hw (fun w => Ok E I (.blk b4 (.cells ⟨arrC .u32 a2⟩ 165 (0, 0)) :: .blk b1 (.cells ⟨arrC .u32 y859⟩ 163 (0, 0)) :: F) w) (fun w hw => ⟨hw.sub (sc (scc (scc sr))), ?_⟩)
    refine tm rfl hf rfl rfl fun a hf => tm rfl hf rfl rfl fun a hf => ?_
    obtain ⟨hg994, hp⟩ := gS hp
    refine tR rfl hf (fun w hw => r_indexAddrA hf el_163 rfl rfl hg994) rfl fun a hf => tR rfl hf (fun w hw => rL hw hf rfl ty_109 1 rfl (arr_at (k := .u32) (v := y859) rfl hg994)) rfl fun a hf => tR rfl hf (fun w hw => r_shr hf rfl rfl (by decide)) rfl fun a hf => tR rfl hf (fun w hw => r_convI hf und_109 und_5 rfl) rfl fun a hf => tm rfl hf rfl rfl fun a hf => ?_
    obtain ⟨hg995, hp⟩ := gS hp
    refine tR rfl hf (fun w hw => r_indexAddrA hf el_163 rfl rfl hg995) rfl fun a hf => tR rfl hf (fun w hw => rL hw hf rfl ty_109 1 rfl (arr_at (k := .u32) (v := y859) rfl hg995)) rfl fun a hf => tR rfl hf (fun w hw => r_shr hf rfl rfl (by decide)) rfl fun a hf => tR rfl hf (fun w hw => r_convI hf und_109 und_5 rfl) rfl fun a hf => tm rfl hf rfl rfl fun a hf => ?_
    obtain ⟨hg996, hp⟩ := gS hp
    refine tR rfl hf (fun w hw => r_indexAddrA hf el_163 rfl rfl hg996) rfl fun a hf => tR rfl hf (fun w hw => rL hw hf rfl ty_109 1 rfl (arr_at (k := .u32) (v := y859) rfl hg996)) rfl fun a hf => tR rfl hf (fun w hw => r_shr hf rfl rfl (by decide)) rfl fun a hf => tR rfl hf (fun w hw => r_convI hf und_109 und_5 rfl) rfl fun a hf => tm rfl hf rfl rfl fun a hf => ?_
    obtain ⟨hg997, hp⟩ := gS hp
    refine tR rfl hf (fun w hw => r_indexAddrA hf el_163 rfl rfl hg997) rfl fun a hf => tR rfl hf (fun w hw => rL hw hf rfl ty_109 1 rfl (arr_at (k := .u32) (v := y859) rfl hg997)) rfl fun a hf => tR rfl hf (fun w hw => r_convI hf und_109 und_5 rfl) rfl fun a hf => t_ef rfl ?_
    obtain ⟨w, v998, hrun999, hw, hRR1000⟩ := e_buildSlice (P := P) (K := (ekI .u8)) (m := 4) hw hf (parts := [(0, .tmp 48), (1, .tmp 53), (2, .tmp 58), (3, .tmp 62)]) el_45 ty_5 rfl rfl rfl (ccs := [[Value.int .u8 (wu8 (shr .u32 (vg y859 y966) 24))], [Value.int .u8 (wu8 (shr .u32 (vg y859 y966) 16))], [Value.int .u8 (wu8 (shr .u32 (vg y859 y966) 8))], [Value.int .u8 (wu8 (vg y859 y966))]]) rfl (xs := [wu8 (shr .u32 (vg y859 y966) 24), wu8 (shr .u32 (vg y859 y966) 16), wu8 (shr .u32 (vg y859 y966) 8), wu8 (vg y859 y966)]) ⟨rfl, rfl, rfl, rfl, trivial⟩ rfl
    obtain ⟨cs1001, hcs⟩ : ∃ cs, cs = ([[Value.int .u8 (wu8 (shr .u32 (vg y859 y966) 24))], [Value.int .u8 (wu8 (shr .u32 (vg y859 y966) 16))], [Value.int .u8 (wu8 (shr .u32 (vg y859 y966) 8))], [Value.int .u8 (wu8 (vg y859 y966))]] : List (List Value)).flatten := ⟨_, rfl⟩
    rw [← hcs] at hw hRR1000; clear hcs
    refine t_eff hf (hrun999 ..) rfl fun a hf => ⟨.inr (hw.back (IH.le_refl _) (sc (sc (scc (scc sr))))), ?_⟩
    refine t_ef rfl ?_
    obtain ⟨hg1003, hp⟩ := gS hp
    obtain ⟨w, v1004, m1005, cs1006, hrun1008, hw, hRR1007⟩ := e_append (P := P) (K := (ekI .u8)) (ty := 45) hw hf (s := .tmp 43) (x := .tmp 63) el_45 ty_5 rfl (by decide) 1 rfl rfl rfl hRR965 (ys := [wu8 (shr .u32 (vg y859 y966) 24), wu8 (shr .u32 (vg y859 y966) 16), wu8 (shr .u32 (vg y859 y966) 8), wu8 (vg y859 y966)]) (rR (K := (ekI .u8)) hw (i := 0) rfl hRR1000) hg1003
    replace hw : Ok E I (.row v998 5 1 4 cs1001 :: .row v1004 5 1 m1005 cs1006 :: .blk b4 (.cells ⟨arrC .u32 a2⟩ 165 (0, 0)) :: .blk b1 (.cells ⟨arrC .u32 y859⟩ 163 (0, 0)) :: F) w := hw
    refine t_eff hf (hrun1008 ..) rfl fun a hf => ⟨.inr (hw.back (IH.le_refl _) (sc (sc (scc (scc sr))))), ?_⟩
    refine tR rfl hf (fun w hw => r_assign hf rfl) rfl fun a hf => t_done <| c_blockN <| ct <| wr <| om hf rfl rfl fun a hf => oR hf (r_add hf rfl rfl) rfl fun a hf => oa hf rfl rfl fun a hf => oN <| ct ?_
    replace hw : Ok E I (.row v1004 5 1 m1005 cs1006 :: .blk b4 (.cells ⟨arrC .u32 a2⟩ 165 (0, 0)) :: .blk b1 (.cells ⟨arrC .u32 y859⟩ 163 (0, 0)) :: F) w := hw.sub (sc (scc (scc (scc sr))))
    exact ih (y961 ++ [wu8 (shr .u32 (vg y859 y966) 24), wu8 (shr .u32 (vg y859 y966) 16), wu8 (shr .u32 (vg y859 y966) 8), wu8 (vg y859 y966)], w64 (y966 + 1)) _ _ ⟨v1004, m1005, cs1006, hw, hf.to ⟨rfl, rfl, rfl, trivial⟩, hRR1007⟩ hp
   ·replace hp := cond_f hb992 hp
    refine wp_exit <| c_thenE <| c_thenE <| c_exit <| ct ?_
    have ho := oI hp
    subst ho
    exact ⟨y961, yv962, m963, cs964, rfl, hw, hf.to ⟨rfl, trivial⟩, hRR965⟩
  ·intro a w hM
   obtain ⟨y984, yv985, m986, cs987, rfl, hw, hf, hRR988⟩ := hM
   replace hp := hq990
   refine ct <| wq <| wr <| om hf rfl rfl fun a hf => oR hf (r_convB hf und_45 und_5 und_9 rfl (rR (K := (ekI .u8)) hw (i := 0) rfl hRR988)) rfl fun a hf => oa hf rfl rfl fun a hf => oN <| ct <| wp_ret ?_
   replace hw : Ok E I (F) w := hw.sub (sc (sc (sc sr)))
   have ho := oI hp
   subst ho
   exact b_ret1 hf results75 rfl ⟨_, rfl, ⟨rfl, hw⟩⟩
end Go.Lf
