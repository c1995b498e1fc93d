/- The Go functions compute the plain Lean functions (printed by our lift.py). -/
import Derived.Test.YtckhmgglgbnaaaaDoorZD
import Derived.Test.YtckhmgglgbnaaaaDoorZF
import Derived.Test.YtckhmgglgbnaaaaDoorJ
import Derived.Test.YtckhmgglgbnaaaaDoorZK6
import Derived.Test.YtckhmgglgbnaaaaDoorZK8
set_option linter.unusedVariables false
set_option linter.unusedSimpArgs false
set_option maxHeartbeats 1000000
set_option maxRecDepth 20000
namespace Go.Lf
open Go
theorem digest_Block_ok {E : World} {I : IH} {F : List Atom} {w : World} {a0 : Vector Int 8} {a1 : Vector Int 64} {res0 : Vector Int 8} (hw : Ok E I (F) w) (hG : Gl I) (hp : digest_Block.f a0 a1 = some res0) :
  Calls P 57 ⟨[Value.agg ⟨arrC .u32 a0⟩, Value.agg ⟨arrC .u8 a1⟩]⟩ w fun e w' => ∃ v, e = .returned v ∧ v = Value.agg ⟨arrC .u32 res0⟩ ∧ Ok E I (F) w' := by
 refine c_enter Go.Proofs.Tryd.func57 rfl Go.Proofs.Tryd.ntmps57 rfl fun a hf => ?_
 replace hf : Fr 115 [(0, Value.agg ⟨arrC .u32 a0⟩), (1, Value.agg ⟨arrC .u8 a1⟩)] a := hf
 unfold digest_Block.f at hp
 refine wq <| wr ?_
 obtain ⟨b1, w, hrun2, hw⟩ := e_box (P := P) hw hf (e := 81) (x := .tmp 0) rfl (cs := (arrC .u32 a0)) rfl
 refine o_eff hf (hrun2 ..) rfl fun a hf => ?_
 obtain ⟨b4, w, hrun5, hw⟩ := e_box (P := P) hw hf (e := 97) (x := .tmp 1) rfl (cs := (arrC .u8 a1)) rfl
 refine o_eff hf (hrun5 ..) rfl fun a hf => ?_
 obtain ⟨b7, w, hrun8, hw⟩ := e_alloc (P := P) (a := a) hw ty_81
 replace hw : Ok E I (.blk b7 (.cells ⟨arrC .u32 (Vector.replicate 8 0 : Vector Int 8)⟩ 81 (0, 0)) :: .blk b4 (.cells ⟨arrC .u8 a1⟩ 97 (0, 0)) :: .blk b1 (.cells ⟨arrC .u32 a0⟩ 81 (0, 0)) :: F) w := hw
 refine o_eff hf (hrun8 ..) rfl fun a hf => oN <| ct <| wq <| wr <| oR hf (r_loadA hw hf rfl ty_97 1 rfl (vs := (arrC .u8 a1)) (take_all (by simp [arrC_len])) (by simp [arrC_len])) rfl fun a hf => ?_
 obtain ⟨y144, hy145, hp⟩ := bS hp
 have hc147 := digest_schedule_ok hw hG hy145
 refine o_call hf cb_78 rfl rfl hc147 (fun v149 w a hK148 hf => ?_)
 obtain ⟨rfl, hw⟩ := hK148
 obtain ⟨b150, w, hrun151, hw⟩ := e_alloc (P := P) (a := a) hw ty_83
 replace hw : Ok E I (.blk b150 (.cells ⟨arrC .u32 (Vector.replicate 64 0 : Vector Int 64)⟩ 83 (0, 0)) :: .blk b7 (.cells ⟨arrC .u32 (Vector.replicate 8 0 : Vector Int 8)⟩ 81 (0, 0)) :: .blk b4 (.cells ⟨arrC .u8 a1⟩ 97 (0, 0)) :: .blk b1 (.cells ⟨arrC .u32 a0⟩ 81 (0, 0)) :: F) w := hw
 refine o_eff hf (hrun151 ..) rfl fun a hf => ?_
 obtain ⟨w, hrun153, hw⟩ := e_store (P := P) hw hf (x := .tmp 5) (y := .tmp 16) rfl rfl ty_83 0 rfl (vs := (arrC .u32 y144)) rfl (by simp [arrC_len]) (arrC_one _ _) (by simp [arrC_len]) (cs' := (arrC .u32 y144)) (by simp [arrC_len])
 replace hw : Ok E I (.blk b150 (.cells ⟨arrC .u32 y144⟩ 83 (0, 0)) :: .blk b7 (.cells ⟨arrC .u32 (Vector.replicate 8 0 : Vector Int 8)⟩ 81 (0, 0)) :: .blk b4 (.cells ⟨arrC .u8 a1⟩ 97 (0, 0)) :: .blk b1 (.cells ⟨arrC .u32 a0⟩ 81 (0, 0)) :: F) w := hw
 refine o_effU (hrun153 ..) <| oN <| ct <| wq <| wr <| oR hf (r_loadA hw hf rfl ty_81 3 rfl (vs := (arrC .u32 a0)) (take_all (by simp [arrC_len])) (by simp [arrC_len])) rfl fun a hf => ?_
 obtain ⟨b154, w, hrun155, hw⟩ := e_alloc (P := P) (a := a) hw ty_81
 replace hw : Ok E I (.blk b154 (.cells ⟨arrC .u32 (Vector.replicate 8 0 : Vector Int 8)⟩ 81 (0, 0)) :: .blk b150 (.cells ⟨arrC .u32 y144⟩ 83 (0, 0)) :: .blk b7 (.cells ⟨arrC .u32 (Vector.replicate 8 0 : Vector Int 8)⟩ 81 (0, 0)) :: .blk b4 (.cells ⟨arrC .u8 a1⟩ 97 (0, 0)) :: .blk b1 (.cells ⟨arrC .u32 a0⟩ 81 (0, 0)) :: F) w := hw
 refine o_eff hf (hrun155 ..) rfl fun a hf => ?_
 obtain ⟨w, hrun157, hw⟩ := e_store (P := P) hw hf (x := .tmp 6) (y := .tmp 17) rfl rfl ty_81 0 rfl (vs := (arrC .u32 a0)) rfl (by simp [arrC_len]) (arrC_one _ _) (by simp [arrC_len]) (cs' := (arrC .u32 a0)) (by simp [arrC_len])
 replace hw : Ok E I (.blk b154 (.cells ⟨arrC .u32 a0⟩ 81 (0, 0)) :: .blk b150 (.cells ⟨arrC .u32 y144⟩ 83 (0, 0)) :: .blk b7 (.cells ⟨arrC .u32 (Vector.replicate 8 0 : Vector Int 8)⟩ 81 (0, 0)) :: .blk b4 (.cells ⟨arrC .u8 a1⟩ 97 (0, 0)) :: .blk b1 (.cells ⟨arrC .u32 a0⟩ 81 (0, 0)) :: F) w := hw
 refine o_effU (hrun157 ..) <| oN <| ct <| wq <| wq <| wr <| om hf rfl rfl fun a hf => oN <| ct ?_
 obtain ⟨out340, hp, hq341⟩ := bS hp
 refine c_cutX (fun a w => ∃ y339 : Vector Int 8, y339 = out340 ∧ Ok E I (.blk b154 (.cells ⟨arrC .u32 y339⟩ 81 (0, 0)) :: .blk b150 (.cells ⟨arrC .u32 y144⟩ 83 (0, 0)) :: .blk b7 (.cells ⟨arrC .u32 (Vector.replicate 8 0 : Vector Int 8)⟩ 81 (0, 0)) :: .blk b4 (.cells ⟨arrC .u8 a1⟩ 97 (0, 0)) :: .blk b1 (.cells ⟨arrC .u32 a0⟩ 81 (0, 0)) :: F) w ∧ Fr 115 ([(2, .pointer (some ⟨b1, 0, none⟩)), (4, .pointer (some ⟨b7, 0, none⟩)), (6, .pointer (some ⟨b154, 0, none⟩))]) a) ?_ ?_
 ·refine wp_block <| c_loop <| c_fuel (digest_Block.l0 y144) out340 (fun (y278, y279) a w => Ok E I (.blk b154 (.cells ⟨arrC .u32 y278⟩ 81 (0, 0)) :: .blk b150 (.cells ⟨arrC .u32 y144⟩ 83 (0, 0)) :: .blk b7 (.cells ⟨arrC .u32 (Vector.replicate 8 0 : Vector Int 8)⟩ 81 (0, 0)) :: .blk b4 (.cells ⟨arrC .u8 a1⟩ 97 (0, 0)) :: .blk b1 (.cells ⟨arrC .u32 a0⟩ 81 (0, 0)) :: F) w ∧ Fr 115 ([(2, .pointer (some ⟨b1, 0, none⟩)), (4, .pointer (some ⟨b7, 0, none⟩)), (5, .pointer (some ⟨b150, 0, none⟩)), (6, .pointer (some ⟨b154, 0, none⟩)), (18, .int .i64 y279)]) a) (fun _ => rfl) ?_ BIG (a0, 0) _ _ ⟨hw, hf.to ⟨rfl, rfl, rfl, rfl, rfl, trivial⟩⟩ hp
  intro k st a w hI hp ih
  obtain ⟨y278, y279⟩ := st
  obtain ⟨hw, hf⟩ := hI
  rw [digest_Block.l0] at hp
  refine wq <| wr <| oR hf (iC hf rfl rfl rfl) rfl fun a hf => oN <| ct <| wq <| cC hf rfl (fun hb343 => ?_) (fun hb343 => ?_)
  ·replace hp := cond_t hb343 hp
   refine wp_skip <| ct <| wq <| wp_block <| wq <| wr <| om hf rfl rfl fun a hf => oa hf rfl rfl fun a hf => oN <| ct <| wq <| c_drawn mix [] (.rd 0 (.rd 1 (.rd 2 (.rd 3 (.rd 4 (.rd 5 .done)))))) (by kernel_rfl) hw (fun w => Ok E I (.blk b154 (.cells ⟨arrC .u32 y278⟩ 81 (0, 0)) :: .blk b150 (.cells ⟨arrC .u32 y144⟩ 83 (0, 0)) :: .blk b7 (.cells ⟨arrC .u32 (Vector.replicate 8 0 : Vector Int 8)⟩ 81 (0, 0)) :: .blk b4 (.cells ⟨arrC .u8 a1⟩ 97 (0, 0)) :: .blk b1 (.cells ⟨arrC .u32 a0⟩ 81 (0, 0)) :: F) w) (fun w hw => ⟨hw.sub (scc (scc (scc (scc (scc sr))))), ?_⟩)
   obtain ⟨hg345, hp⟩ := gS hp
   refine tR rfl hf (fun w hw => r_indexAddrA hf el_81 rfl rfl hg345) rfl fun a hf => tR rfl hf (fun w hw => rL hw hf rfl ty_80 0 rfl (arr_at (k := .u32) (v := y278) rfl hg345)) rfl fun a hf => ?_
   obtain ⟨hg346, hp⟩ := gS hp
   refine tR rfl hf (fun w hw => r_indexAddrA hf el_81 rfl rfl hg346) rfl fun a hf => tR rfl hf (fun w hw => rL hw hf rfl ty_80 0 rfl (arr_at (k := .u32) (v := y278) rfl hg346)) rfl fun a hf => tR rfl hf (fun w hw => r_assign hf rfl) rfl fun a hf => tR rfl hf (fun w hw => r_assign hf rfl) rfl fun a hf => t_done <| ct <| wq <| wr <| om hf rfl rfl fun a hf => ?_
   obtain ⟨hg347, hp⟩ := gS hp
   refine oR hf (r_indexAddrA hf el_81 rfl rfl hg347) rfl fun a hf => oR hf (rL hw hf rfl ty_80 0 rfl (arr_at (k := .u32) (v := y278) rfl hg347)) rfl fun a hf => oR hf (r_and hf rfl rfl) rfl fun a hf => om hf rfl rfl fun a hf => oR hf (r_cnot hf rfl) rfl fun a hf => ?_
   obtain ⟨hg348, hp⟩ := gS hp
   refine oR hf (r_indexAddrA hf el_81 rfl rfl hg348) rfl fun a hf => oR hf (rL hw hf rfl ty_80 0 rfl (arr_at (k := .u32) (v := y278) rfl hg348)) rfl fun a hf => oR hf (r_and hf rfl rfl) rfl fun a hf => oR hf (r_xor hf rfl rfl) rfl fun a hf => oa hf rfl rfl fun a hf => oN <| ct <| wq <| wr <| om hf rfl rfl fun a hf => ?_
   obtain ⟨hg349, hp⟩ := gS hp
   refine oR hf (r_indexAddrA hf el_81 rfl rfl hg349) rfl fun a hf => oR hf (rL hw hf rfl ty_80 0 rfl (arr_at (k := .u32) (v := y278) rfl hg349)) rfl fun a hf => oR hf (r_and hf rfl rfl) rfl fun a hf => om hf rfl rfl fun a hf => ?_
   obtain ⟨hg350, hp⟩ := gS hp
   refine oR hf (r_indexAddrA hf el_81 rfl rfl hg350) rfl fun a hf => oR hf (rL hw hf rfl ty_80 0 rfl (arr_at (k := .u32) (v := y278) rfl hg350)) rfl fun a hf => oR hf (r_and hf rfl rfl) rfl fun a hf => oR hf (r_xor hf rfl rfl) rfl fun a hf => ?_
   obtain ⟨hg351, hp⟩ := gS hp
   refine oR hf (r_indexAddrA hf el_81 rfl rfl hg351) rfl fun a hf => oR hf (rL hw hf rfl ty_80 0 rfl (arr_at (k := .u32) (v := y278) rfl hg351)) rfl fun a hf => ?_
   obtain ⟨hg352, hp⟩ := gS hp
   refine oR hf (r_indexAddrA hf el_81 rfl rfl hg352) rfl fun a hf => oR hf (rL hw hf rfl ty_80 0 rfl (arr_at (k := .u32) (v := y278) rfl hg352)) rfl fun a hf => oR hf (r_and hf rfl rfl) rfl fun a hf => oR hf (r_xor hf rfl rfl) rfl fun a hf => oa hf rfl rfl fun a hf => oN <| ct <| wq <| c_drawn mix [] (.rd 0 (.rd 1 (.rd 2 (.rd 4 (.rd 7 (.rd 11 (.rd 13 (.rd 14 (.rd 15 (.rd 17 (.rd 18 (.rd 19 (.ef 3 (.ef 5 (.rd 6 (.ef 8 (.rd 9 (.rd 10 (.rd 12 (.rd 16 (.rd 20 (.rd 21 .done)))))))))))))))))))))) (by kernel_rfl) hw (fun w => Ok E I (.blk b154 (.cells ⟨arrC .u32 y278⟩ 81 (0, 0)) :: .blk b150 (.cells ⟨arrC .u32 y144⟩ 83 (0, 0)) :: .blk b7 (.cells ⟨arrC .u32 (Vector.replicate 8 0 : Vector Int 8)⟩ 81 (0, 0)) :: .blk b4 (.cells ⟨arrC .u8 a1⟩ 97 (0, 0)) :: .blk b1 (.cells ⟨arrC .u32 a0⟩ 81 (0, 0)) :: F) w) (fun w hw => ⟨hw.sub (scc (scc (scc (scc (scc sr))))), ?_⟩)
   obtain ⟨hg354, hp⟩ := gS hp
   refine tR rfl hf (fun w hw => r_indexAddrA hf el_81 rfl rfl hg354) rfl fun a hf => tR rfl hf (fun w hw => rL hw hf rfl ty_80 0 rfl (arr_at (k := .u32) (v := y278) rfl hg354)) rfl fun a hf => tm rfl hf rfl rfl fun a hf => tm rfl hf rfl rfl fun a hf => tm rfl hf rfl rfl fun a hf => tm rfl hf rfl rfl fun a hf => tm rfl hf rfl rfl fun a hf => ?_
   obtain ⟨hg355, hp⟩ := gS hp
   refine tR rfl hf (fun w hw => r_indexAddrA hf el_83 rfl rfl hg355) rfl fun a hf => ?_
   obtain ⟨_, _, hgl356⟩ := hG.g1
   refine tR rfl hf (fun w hw => r_loadG hw hf rfl ty_80 hgl356 (arr_at (k := .u32) (v := glob_1) rfl hg355)) rfl fun a hf => tm rfl hf rfl rfl fun a hf => ?_
   obtain ⟨hg357, hp⟩ := gS hp
   refine tR rfl hf (fun w hw => r_indexAddrA hf el_83 rfl rfl hg357) rfl fun a hf => tR rfl hf (fun w hw => rL hw hf rfl ty_80 1 rfl (arr_at (k := .u32) (v := y144) rfl hg357)) rfl fun a hf => t_ef rfl ?_
   obtain ⟨y358, hy359, hp⟩ := bS hp
   have hc361 := digest_turned_ok hw hG hy359
   refine t_call hf cb_79 rfl rfl hc361 (fun v363 w a hK362 hf => ?_)
   obtain ⟨rfl, hw⟩ := hK362
   refine ⟨.inr (hw.back (IH.le_refl _) (scc (scc (scc (scc (scc sr)))))), ?_⟩
   refine t_ef rfl ?_
   obtain ⟨y364, hy365, hp⟩ := bS hp
   have hc367 := digest_turned_ok hw hG hy365
   refine t_call hf cb_79 rfl rfl hc367 (fun v369 w a hK368 hf => ?_)
   obtain ⟨rfl, hw⟩ := hK368
   refine ⟨.inr (hw.back (IH.le_refl _) (scc (scc (scc (scc (scc sr)))))), ?_⟩
   refine tR rfl hf (fun w hw => r_xor hf rfl rfl) rfl fun a hf => t_ef rfl ?_
   obtain ⟨y370, hy371, hp⟩ := bS hp
   have hc373 := digest_turned_ok hw hG hy371
   refine t_call hf cb_79 rfl rfl hc373 (fun v375 w a hK374 hf => ?_)
   obtain ⟨rfl, hw⟩ := hK374
   refine ⟨.inr (hw.back (IH.le_refl _) (scc (scc (scc (scc (scc sr)))))), ?_⟩
   refine tR rfl hf (fun w hw => r_xor hf rfl rfl) rfl fun a hf => tR rfl hf (fun w hw => r_add hf rfl rfl) rfl fun a hf => tR rfl hf (fun w hw => r_add hf rfl rfl) rfl fun a hf => tR rfl hf (fun w hw => r_add hf rfl rfl) rfl fun a hf => tR rfl hf (fun w hw => r_add hf rfl rfl) rfl fun a hf => tR rfl hf (fun w hw => r_assign hf rfl) rfl fun a hf => t_done <| ct <| wq <| wr <| om hf rfl rfl fun a hf => ?_
   obtain ⟨y376, hy377, hp⟩ := bS hp
   have hc379 := digest_turned_ok hw hG hy377
   refine o_call hf cb_79 rfl rfl hc379 (fun v381 w a hK380 hf => ?_)
   obtain ⟨rfl, hw⟩ := hK380
   refine om hf rfl rfl fun a hf => ?_
   obtain ⟨y382, hy383, hp⟩ := bS hp
   have hc385 := digest_turned_ok hw hG hy383
   refine o_call hf cb_79 rfl rfl hc385 (fun v387 w a hK386 hf => ?_)
   obtain ⟨rfl, hw⟩ := hK386
   refine oR hf (r_xor hf rfl rfl) rfl fun a hf => om hf rfl rfl fun a hf => ?_
   obtain ⟨y388, hy389, hp⟩ := bS hp
   have hc391 := digest_turned_ok hw hG hy389
   refine o_call hf cb_79 rfl rfl hc391 (fun v393 w a hK392 hf => ?_)
   obtain ⟨rfl, hw⟩ := hK392
   refine oR hf (r_xor hf rfl rfl) rfl fun a hf => om hf rfl rfl fun a hf => oR hf (r_add hf rfl rfl) rfl fun a hf => oa hf rfl rfl fun a hf => oN <| ct <| wr <| om hf rfl rfl fun a hf => om hf rfl rfl fun a hf => oR hf (r_add hf rfl rfl) rfl fun a hf => ?_
   obtain ⟨hg394, hp⟩ := gS hp
   refine oR hf (r_indexAddrA hf el_81 rfl rfl hg394) rfl fun a hf => oR hf (rL hw hf rfl ty_80 0 rfl (arr_at (k := .u32) (v := y278) rfl hg394)) rfl fun a hf => ?_
   obtain ⟨hg395, hp⟩ := gS hp
   refine oR hf (r_indexAddrA hf el_81 rfl rfl hg395) rfl fun a hf => oR hf (rL hw hf rfl ty_80 0 rfl (arr_at (k := .u32) (v := y278) rfl hg395)) rfl fun a hf => ?_
   obtain ⟨hg396, hp⟩ := gS hp
   refine oR hf (r_indexAddrA hf el_81 rfl rfl hg396) rfl fun a hf => oR hf (rL hw hf rfl ty_80 0 rfl (arr_at (k := .u32) (v := y278) rfl hg396)) rfl fun a hf => ?_
   obtain ⟨hg397, hp⟩ := gS hp
   refine oR hf (r_indexAddrA hf el_81 rfl rfl hg397) rfl fun a hf => oR hf (rL hw hf rfl ty_80 0 rfl (arr_at (k := .u32) (v := y278) rfl hg397)) rfl fun a hf => om hf rfl rfl fun a hf => oR hf (r_add hf rfl rfl) rfl fun a hf => ?_
   obtain ⟨hg398, hp⟩ := gS hp
   refine oR hf (r_indexAddrA hf el_81 rfl rfl hg398) rfl fun a hf => oR hf (rL hw hf rfl ty_80 0 rfl (arr_at (k := .u32) (v := y278) rfl hg398)) rfl fun a hf => ?_
   obtain ⟨hg399, hp⟩ := gS hp
   refine oR hf (r_indexAddrA hf el_81 rfl rfl hg399) rfl fun a hf => oR hf (rL hw hf rfl ty_80 0 rfl (arr_at (k := .u32) (v := y278) rfl hg399)) rfl fun a hf => ?_
   obtain ⟨hg400, hp⟩ := gS hp
   refine oR hf (r_indexAddrA hf el_81 rfl rfl hg400) rfl fun a hf => oR hf (rL hw hf rfl ty_80 0 rfl (arr_at (k := .u32) (v := y278) rfl hg400)) rfl fun a hf => oR hf (r_buildArr hf el_81 ty_81 rfl rfl rfl (v := (#v[wu32 ((wu32 ((wu32 ((wu32 ((wu32 ((vg y278 7) + (bxor .u32 (bxor .u32 y358 y364) y370))) + (bxor .u32 (band .u32 (vg y278 4) (vg y278 5)) (band .u32 (bxor .u32 (if IntKind.signed .u32 then -1 else IntKind.max .u32) (vg y278 4)) (vg y278 6))))) + (vg glob_1 y279))) + (vg y144 y279))) + (wu32 ((bxor .u32 (bxor .u32 y376 y382) y388) + (bxor .u32 (bxor .u32 (band .u32 (vg y278 0) (vg y278 1)) (band .u32 (vg y278 0) (vg y278 2))) (band .u32 (vg y278 1) (vg y278 2)))))), vg y278 0, vg y278 1, vg y278 2, wu32 ((vg y278 3) + (wu32 ((wu32 ((wu32 ((wu32 ((vg y278 7) + (bxor .u32 (bxor .u32 y358 y364) y370))) + (bxor .u32 (band .u32 (vg y278 4) (vg y278 5)) (band .u32 (bxor .u32 (if IntKind.signed .u32 then -1 else IntKind.max .u32) (vg y278 4)) (vg y278 6))))) + (vg glob_1 y279))) + (vg y144 y279)))), vg y278 4, vg y278 5, vg y278 6] : Vector Int 8)) rfl) rfl fun a hf => ?_
   obtain ⟨w, hrun401, hw⟩ := e_store (P := P) hw hf (x := .tmp 6) (y := .tmp 100) rfl rfl ty_81 0 rfl (vs := (arrC .u32 (#v[wu32 ((wu32 ((wu32 ((wu32 ((wu32 ((vg y278 7) + (bxor .u32 (bxor .u32 y358 y364) y370))) + (bxor .u32 (band .u32 (vg y278 4) (vg y278 5)) (band .u32 (bxor .u32 (if IntKind.signed .u32 then -1 else IntKind.max .u32) (vg y278 4)) (vg y278 6))))) + (vg glob_1 y279))) + (vg y144 y279))) + (wu32 ((bxor .u32 (bxor .u32 y376 y382) y388) + (bxor .u32 (bxor .u32 (band .u32 (vg y278 0) (vg y278 1)) (band .u32 (vg y278 0) (vg y278 2))) (band .u32 (vg y278 1) (vg y278 2)))))), vg y278 0, vg y278 1, vg y278 2, wu32 ((vg y278 3) + (wu32 ((wu32 ((wu32 ((wu32 ((vg y278 7) + (bxor .u32 (bxor .u32 y358 y364) y370))) + (bxor .u32 (band .u32 (vg y278 4) (vg y278 5)) (band .u32 (bxor .u32 (if IntKind.signed .u32 then -1 else IntKind.max .u32) (vg y278 4)) (vg y278 6))))) + (vg glob_1 y279))) + (vg y144 y279)))), vg y278 4, vg y278 5, vg y278 6] : Vector Int 8))) rfl (by simp [arrC_len]) (arrC_one _ _) (by simp [arrC_len]) (cs' := (arrC .u32 (#v[wu32 ((wu32 ((wu32 ((wu32 ((wu32 ((vg y278 7) + (bxor .u32 (bxor .u32 y358 y364) y370))) + (bxor .u32 (band .u32 (vg y278 4) (vg y278 5)) (band .u32 (bxor .u32 (if IntKind.signed .u32 then -1 else IntKind.max .u32) (vg y278 4)) (vg y278 6))))) + (vg glob_1 y279))) + (vg y144 y279))) + (wu32 ((bxor .u32 (bxor .u32 y376 y382) y388) + (bxor .u32 (bxor .u32 (band .u32 (vg y278 0) (vg y278 1)) (band .u32 (vg y278 0) (vg y278 2))) (band .u32 (vg y278 1) (vg y278 2)))))), vg y278 0, vg y278 1, vg y278 2, wu32 ((vg y278 3) + (wu32 ((wu32 ((wu32 ((wu32 ((vg y278 7) + (bxor .u32 (bxor .u32 y358 y364) y370))) + (bxor .u32 (band .u32 (vg y278 4) (vg y278 5)) (band .u32 (bxor .u32 (if IntKind.signed .u32 then -1 else IntKind.max .u32) (vg y278 4)) (vg y278 6))))) + (vg glob_1 y279))) + (vg y144 y279)))), vg y278 4, vg y278 5, vg y278 6] : Vector Int 8))) (by simp [arrC_len])
   replace hw : Ok E I (.blk b154 (.cells ⟨arrC .u32 (#v[wu32 ((wu32 ((wu32 ((wu32 ((wu32 ((vg y278 7) + (bxor .u32 (bxor .u32 y358 y364) y370))) + (bxor .u32 (band .u32 (vg y278 4) (vg y278 5)) (band .u32 (bxor .u32 (if IntKind.signed .u32 then -1 else IntKind.max .u32) (vg y278 4)) (vg y278 6))))) + (vg glob_1 y279))) + (vg y144 y279))) + (wu32 ((bxor .u32 (bxor .u32 y376 y382) y388) + (bxor .u32 (bxor .u32 (band .u32 (vg y278 0) (vg y278 1)) (band .u32 (vg y278 0) (vg y278 2))) (band .u32 (vg y278 1) (vg y278 2)))))), vg y278 0, vg y278 1, vg y278 2, wu32 ((vg y278 3) + (wu32 ((wu32 ((wu32 ((wu32 ((vg y278 7) + (bxor .u32 (bxor .u32 y358 y364) y370))) + (bxor .u32 (band .u32 (vg y278 4) (vg y278 5)) (band .u32 (bxor .u32 (if IntKind.signed .u32 then -1 else IntKind.max .u32) (vg y278 4)) (vg y278 6))))) + (vg glob_1 y279))) + (vg y144 y279)))), vg y278 4, vg y278 5, vg y278 6] : Vector Int 8)⟩ 81 (0, 0)) :: .blk b150 (.cells ⟨arrC .u32 y144⟩ 83 (0, 0)) :: .blk b7 (.cells ⟨arrC .u32 (Vector.replicate 8 0 : Vector Int 8)⟩ 81 (0, 0)) :: .blk b4 (.cells ⟨arrC .u8 a1⟩ 97 (0, 0)) :: .blk b1 (.cells ⟨arrC .u32 a0⟩ 81 (0, 0)) :: F) w := hw
   refine o_effU (hrun401 ..) <| oN <| c_blockN <| ct <| wr <| oR hf (r_add hf rfl rfl) rfl fun a hf => om hf rfl rfl fun a hf => oN <| ct ?_
   exact ih ((#v[wu32 ((wu32 ((wu32 ((wu32 ((wu32 ((vg y278 7) + (bxor .u32 (bxor .u32 y358 y364) y370))) + (bxor .u32 (band .u32 (vg y278 4) (vg y278 5)) (band .u32 (bxor .u32 (if IntKind.signed .u32 then -1 else IntKind.max .u32) (vg y278 4)) (vg y278 6))))) + (vg glob_1 y279))) + (vg y144 y279))) + (wu32 ((bxor .u32 (bxor .u32 y376 y382) y388) + (bxor .u32 (bxor .u32 (band .u32 (vg y278 0) (vg y278 1)) (band .u32 (vg y278 0) (vg y278 2))) (band .u32 (vg y278 1) (vg y278 2)))))), vg y278 0, vg y278 1, vg y278 2, wu32 ((vg y278 3) + (wu32 ((wu32 ((wu32 ((wu32 ((vg y278 7) + (bxor .u32 (bxor .u32 y358 y364) y370))) + (bxor .u32 (band .u32 (vg y278 4) (vg y278 5)) (band .u32 (bxor .u32 (if IntKind.signed .u32 then -1 else IntKind.max .u32) (vg y278 4)) (vg y278 6))))) + (vg glob_1 y279))) + (vg y144 y279)))), vg y278 4, vg y278 5, vg y278 6] : Vector Int 8), w64 (y279 + 1)) _ _ ⟨hw, hf.to ⟨rfl, rfl, rfl, rfl, rfl, trivial⟩⟩ hp
  ·replace hp := cond_f hb343 hp
   refine wp_exit <| c_thenE <| c_thenE <| c_exit <| ct ?_
   have ho := oI hp
   subst ho
   exact ⟨y278, rfl, hw, hf.to ⟨rfl, rfl, rfl, trivial⟩⟩
 ·intro a w hM
  obtain ⟨y339, rfl, hw, hf⟩ := hM
  replace hp := hq341
  refine ct <| wq <| wq <| wr <| om hf rfl rfl fun a hf => oN <| ct ?_
  obtain ⟨out426, hp, hq427⟩ := bS hp
  refine c_cutX (fun a w => ∃ y425 : Vector Int 8, y425 = out426 ∧ Ok E I (.blk b154 (.cells ⟨arrC .u32 y339⟩ 81 (0, 0)) :: .blk b150 (.cells ⟨arrC .u32 y144⟩ 83 (0, 0)) :: .blk b7 (.cells ⟨arrC .u32 (Vector.replicate 8 0 : Vector Int 8)⟩ 81 (0, 0)) :: .blk b4 (.cells ⟨arrC .u8 a1⟩ 97 (0, 0)) :: .blk b1 (.cells ⟨arrC .u32 y425⟩ 81 (0, 0)) :: F) w ∧ Fr 115 ([(2, .pointer (some ⟨b1, 0, none⟩)), (4, .pointer (some ⟨b7, 0, none⟩))]) a) ?_ ?_
  ·refine wp_block <| c_loop <| c_fuel (digest_Block.l1 y339) out426 (fun (y417, y418) a w => Ok E I (.blk b154 (.cells ⟨arrC .u32 y339⟩ 81 (0, 0)) :: .blk b150 (.cells ⟨arrC .u32 y144⟩ 83 (0, 0)) :: .blk b7 (.cells ⟨arrC .u32 (Vector.replicate 8 0 : Vector Int 8)⟩ 81 (0, 0)) :: .blk b4 (.cells ⟨arrC .u8 a1⟩ 97 (0, 0)) :: .blk b1 (.cells ⟨arrC .u32 y417⟩ 81 (0, 0)) :: F) w ∧ Fr 115 ([(2, .pointer (some ⟨b1, 0, none⟩)), (4, .pointer (some ⟨b7, 0, none⟩)), (6, .pointer (some ⟨b154, 0, none⟩)), (102, .int .i64 y418)]) a) (fun _ => rfl) ?_ BIG (a0, 0) _ _ ⟨hw, hf.to ⟨rfl, rfl, rfl, rfl, trivial⟩⟩ hp
   intro k st a w hI hp ih
   obtain ⟨y417, y418⟩ := st
   obtain ⟨hw, hf⟩ := hI
   rw [digest_Block.l1] at hp
   refine wq <| wr <| oR hf (iC hf rfl rfl rfl) rfl fun a hf => oN <| ct <| wq <| cC hf rfl (fun hb429 => ?_) (fun hb429 => ?_)
   ·replace hp := cond_t hb429 hp
    refine wp_skip <| ct <| wq <| wp_block <| wq <| wr <| om hf rfl rfl fun a hf => oa hf rfl rfl fun a hf => oN <| ct <| c_drawn mix [8] (.rd 0 (.rd 1 (.rd 2 (.rd 3 (.rd 4 (.rd 5 (.rd 6 (.rd 7 (.ef 8 .done))))))))) (by kernel_rfl) hw (fun w => Ok E I (.blk b154 (.cells ⟨arrC .u32 y339⟩ 81 (0, 0)) :: .blk b150 (.cells ⟨arrC .u32 y144⟩ 83 (0, 0)) :: .blk b7 (.cells ⟨arrC .u32 (Vector.replicate 8 0 : Vector Int 8)⟩ 81 (0, 0)) :: .blk b4 (.cells ⟨arrC .u8 a1⟩ 97 (0, 0)) :: .blk b1 (.cells ⟨arrC .u32 y417⟩ 81 (0, 0)) :: F) w) (fun w hw => ⟨hw.sub (scc (scc (scc (scc (scc sr))))), ?_⟩)
    refine tm rfl hf rfl rfl fun a hf => ?_
    obtain ⟨hg431, hp⟩ := gS hp
    refine tR rfl hf (fun w hw => r_indexAddrA hf el_81 rfl rfl hg431) rfl fun a hf => tR rfl hf (fun w hw => rL hw hf rfl ty_80 4 rfl (arr_at (k := .u32) (v := y417) rfl hg431)) rfl fun a hf => tm rfl hf rfl rfl fun a hf => ?_
    obtain ⟨hg432, hp⟩ := gS hp
    refine tR rfl hf (fun w hw => r_indexAddrA hf el_81 rfl rfl hg432) rfl fun a hf => tR rfl hf (fun w hw => rL hw hf rfl ty_80 0 rfl (arr_at (k := .u32) (v := y339) rfl hg432)) rfl fun a hf => tR rfl hf (fun w hw => r_add hf rfl rfl) rfl fun a hf => ?_
    obtain ⟨hg433, hp⟩ := gS hp
    refine tR rfl hf (fun w hw => r_indexAddrA hf el_81 rfl rfl hg433) rfl fun a hf => t_ef rfl ?_
    obtain ⟨w, hrun434, hw⟩ := e_store (P := P) hw hf (x := .tmp 112) (y := .tmp 111) rfl rfl ty_80 4 rfl (vs := [Value.int .u32 (wu32 ((vg y417 y418) + (vg y339 y418)))]) rfl rfl (oC rfl ones_nil) (by first | (simp [arrC_len] <;> omega) | (have h := hg433; try (simp only [w64, wu8, wu16, wu32, wu64] at h); simp only [List.length_cons, arrC_len]; omega)) (cs' := (arrC .u32 (vset y417 y418 (wu32 ((vg y417 y418) + (vg y339 y418)))))) (arr_store (pre := ([] : List Value)) (v := y417) rfl rfl rfl hg433)
    replace hw : Ok E I (.blk b154 (.cells ⟨arrC .u32 y339⟩ 81 (0, 0)) :: .blk b150 (.cells ⟨arrC .u32 y144⟩ 83 (0, 0)) :: .blk b7 (.cells ⟨arrC .u32 (Vector.replicate 8 0 : Vector Int 8)⟩ 81 (0, 0)) :: .blk b4 (.cells ⟨arrC .u8 a1⟩ 97 (0, 0)) :: .blk b1 (.cells ⟨arrC .u32 (vset y417 y418 (wu32 ((vg y417 y418) + (vg y339 y418))))⟩ 81 (0, 0)) :: F) w := hw
    refine t_effU (hrun434 ..) ⟨.inl rfl, ?_⟩
    refine t_done <| c_blockN <| ct <| wr <| oR hf (r_add hf rfl rfl) rfl fun a hf => om hf rfl rfl fun a hf => oN <| ct ?_
    exact ih (vset y417 y418 (wu32 ((vg y417 y418) + (vg y339 y418))), w64 (y418 + 1)) _ _ ⟨hw, hf.to ⟨rfl, rfl, rfl, rfl, trivial⟩⟩ hp
   ·replace hp := cond_f hb429 hp
    refine wp_exit <| c_thenE <| c_thenE <| c_exit <| ct ?_
    have ho := oI hp
    subst ho
    exact ⟨y417, rfl, hw, hf.to ⟨rfl, rfl, trivial⟩⟩
  ·intro a w hM
   obtain ⟨y425, rfl, hw, hf⟩ := hM
   replace hp := hq427
   refine ct <| wq <| wr <| oR hf (r_loadA hw hf rfl ty_81 4 rfl (vs := (arrC .u32 y425)) (take_all (by simp [arrC_len])) (by simp [arrC_len])) rfl fun a hf => ?_
   obtain ⟨w, hrun436, hw⟩ := e_store (P := P) hw hf (x := .tmp 4) (y := .tmp 114) rfl rfl ty_81 2 rfl (vs := (arrC .u32 y425)) rfl (by simp [arrC_len]) (arrC_one _ _) (by simp [arrC_len]) (cs' := (arrC .u32 y425)) (by simp [arrC_len])
   replace hw : Ok E I (.blk b154 (.cells ⟨arrC .u32 y339⟩ 81 (0, 0)) :: .blk b150 (.cells ⟨arrC .u32 y144⟩ 83 (0, 0)) :: .blk b7 (.cells ⟨arrC .u32 y425⟩ 81 (0, 0)) :: .blk b4 (.cells ⟨arrC .u8 a1⟩ 97 (0, 0)) :: .blk b1 (.cells ⟨arrC .u32 y425⟩ 81 (0, 0)) :: F) w := hw
   refine o_effU (hrun436 ..) <| oN <| ct <| wp_ret ?_
   replace hw : Ok E I (.blk b7 (.cells ⟨arrC .u32 y425⟩ 81 (0, 0)) :: F) w := hw.sub (sc (sc (scc (sc (sc sr)))))
   have ho := oI hp
   subst ho
   exact b_retC hw hf Go.Proofs.Tryd.results57 ty_81 rfl 0 rfl (vs := (arrC .u32 y425)) (take_all (by simp [arrC_len])) (by simp [arrC_len]) ⟨_, rfl, ⟨rfl, hw.tail⟩⟩

theorem digest_Of_ok {E : World} {I : IH} {F : List Atom} {w : World} {a0 : ByteArray} {res0 : ByteArray} (hw : Ok E I (F) w) (hG : Gl I) (hp : digest_Of.f a0 = some res0) :
  Calls P 31 ⟨[Value.string a0]⟩ w fun e w' => ∃ v, e = .returned v ∧ v = Value.string res0 ∧ Ok E I (F) w' := by
 refine c_enter Go.Proofs.Tryd.func31 rfl Go.Proofs.Tryd.ntmps31 rfl fun a hf => ?_
 replace hf : Fr 45 [(0, .string a0)] a := hf
 unfold digest_Of.f at hp
 refine wq <| wr <| oa hf rfl rfl fun a hf => oN <| ct <| wq <| wr <| om hf rfl rfl fun a hf => om hf rfl rfl fun a hf => oR hf (r_lenS hf und_9 rfl) rfl fun a hf => ?_
 obtain ⟨y85, hy86, hp⟩ := bS hp
 have hc88 := digest_Pad_ok hw hG hy86
 refine o_call hf cb_56 rfl rfl hc88 (fun v90 w a hK89 hf => ?_)
 obtain ⟨rfl, hw⟩ := hK89
 obtain ⟨hg91, hp⟩ := gS hp
 refine oR hf (r_sadd hf rfl rfl hg91) rfl fun a hf => oa hf rfl rfl fun a hf => oN <| ct <| wq <| wr ?_
 obtain ⟨_, _, hgl92⟩ := hG.g0
 refine oR hf (r_loadGA hw hf rfl ty_81 hgl92 (vs := arrC .u32 glob_0) (take_all (arrC_len _ _)) (arrC_len _ _)) rfl fun a hf => ?_
 obtain ⟨b93, w, hrun94, hw⟩ := e_alloc (P := P) (a := a) hw ty_81
 replace hw : Ok E I (.blk b93 (.cells ⟨arrC .u32 (Vector.replicate 8 0 : Vector Int 8)⟩ 81 (0, 0)) :: F) w := hw
 refine o_eff hf (hrun94 ..) rfl fun a hf => ?_
 obtain ⟨w, hrun96, hw⟩ := e_store (P := P) hw hf (x := .tmp 3) (y := .tmp 12) rfl rfl ty_81 0 rfl (vs := (arrC .u32 glob_0)) rfl (by simp [arrC_len]) (arrC_one _ _) (by simp [arrC_len]) (cs' := (arrC .u32 glob_0)) (by simp [arrC_len])
 replace hw : Ok E I (.blk b93 (.cells ⟨arrC .u32 glob_0⟩ 81 (0, 0)) :: F) w := hw
 refine o_effU (hrun96 ..) <| oN <| ct <| wq ?_
 obtain ⟨out486, hp, hq487⟩ := bS hp
 refine c_cutX (fun a w => ∃ y485 : Vector Int 8, y485 = out486 ∧ Ok E I (.blk b93 (.cells ⟨arrC .u32 y485⟩ 81 (0, 0)) :: F) w ∧ Fr 45 ([(3, .pointer (some ⟨b93, 0, none⟩))]) a) ?_ ?_
 ·refine wp_block <| c_loop <| c_fuel (digest_Of.l0) out486 (fun (y465, y466) a w => Ok E I (.blk b93 (.cells ⟨arrC .u32 y465⟩ 81 (0, 0)) :: F) w ∧ Fr 45 ([(0, .string y466), (3, .pointer (some ⟨b93, 0, none⟩))]) a) (fun _ => rfl) ?_ BIG (glob_0, a0 ++ y85) _ _ ⟨hw, hf.to ⟨rfl, rfl, trivial⟩⟩ hp
  intro k st a w hI hp ih
  obtain ⟨y465, y466⟩ := st
  obtain ⟨hw, hf⟩ := hI
  rw [digest_Of.l0] at hp
  refine wq <| wq <| wr <| om hf rfl rfl fun a hf => oR hf (r_scmp hf rfl rfl rfl) rfl fun a hf => oN <| ct <| cC hf rfl (fun hb489 => ?_) (fun hb489 => ?_)
  ·replace hp := cond_t hb489 hp
   refine wp_skip <| ct <| wq <| wp_block <| c_drawn mix [7] (.rd 0 (.rd 1 (.rd 2 (.ef 3 (.ef 4 (.ef 5 (.ef 6 (.ef 7 .done)))))))) (by kernel_rfl) hw (fun w => Ok E I (.blk b93 (.cells ⟨arrC .u32 y465⟩ 81 (0, 0)) :: F) w) (fun w hw => ⟨hw.sub (scc sr), ?_⟩)
   refine tR rfl hf (fun w hw => r_loadA hw hf rfl ty_81 0 rfl (vs := (arrC .u32 y465)) (take_all (by simp [arrC_len])) (by simp [arrC_len])) rfl fun a hf => tm rfl hf rfl rfl fun a hf => ?_
   obtain ⟨hg491, hp⟩ := gS hp
   refine tR rfl hf (fun w hw => r_sliceSh hf und_9 rfl rfl hg491) rfl fun a hf => t_ef rfl ?_
   obtain ⟨hg492, hp⟩ := gS hp
   obtain ⟨w, v493, sA496, hrun494, hw, hRR495⟩ := e_convSB (P := P) hw hf (x := .tmp 19) und_9 und_60 und_5 rfl hg492
   refine t_eff hf (hrun494 ..) rfl fun a hf => ⟨.inr (hw.back (IH.le_refl _) (sc (scc sr))), ?_⟩
   refine t_ef rfl ?_
   obtain ⟨hg498, hp⟩ := gS hp
   refine t_eff hf (r_s2ap hf el_97 rfl (sb_rd hw (i := 0) rfl hRR495) hg498) rfl fun a hf => ⟨.inr (hw.back (IH.le_refl _) (sc (scc sr))), ?_⟩
   refine t_ef rfl <| t_eff hf (r_loadSP hf rfl ty_97 (sb_rd hw (i := 0) rfl hRR495) hg498) rfl fun a hf => ⟨.inr (hw.back (IH.le_refl _) (sc (scc sr))), ?_⟩
   refine t_ef rfl ?_
   obtain ⟨y499, hy500, hp⟩ := bS hp
   have hc502 := digest_Block_ok hw hG hy500
   refine t_call hf cb_57 rfl rfl hc502 (fun v504 w a hK503 hf => ?_)
   obtain ⟨rfl, hw⟩ := hK503
   refine ⟨.inr (hw.back (IH.le_refl _) (sc (scc sr))), ?_⟩
   refine t_ef rfl ?_
   obtain ⟨w, hrun505, hw⟩ := e_store (P := P) hw hf (x := .tmp 3) (y := .tmp 23) rfl rfl ty_81 1 rfl (vs := (arrC .u32 y499)) rfl (by simp [arrC_len]) (arrC_one _ _) (by simp [arrC_len]) (cs' := (arrC .u32 y499)) (by simp [arrC_len])
   replace hw : Ok E I (sA496 :: .blk b93 (.cells ⟨arrC .u32 y499⟩ 81 (0, 0)) :: F) w := hw
   refine t_effU (hrun505 ..) ⟨.inl rfl, ?_⟩
   refine t_done <| c_blockN <| ct <| wr <| om hf rfl rfl fun a hf => ?_
   obtain ⟨hg506, hp⟩ := gS hp
   refine oR hf (r_sliceSl hf und_9 rfl rfl hg506) rfl fun a hf => oa hf rfl rfl fun a hf => oN <| ct ?_
   replace hw : Ok E I (.blk b93 (.cells ⟨arrC .u32 y499⟩ 81 (0, 0)) :: F) w := hw.sub (sc (scc sr))
   exact ih (y499, sub y466 64 (y466.size : Int)) _ _ ⟨hw, hf.to ⟨rfl, rfl, trivial⟩⟩ hp
  ·replace hp := cond_f hb489 hp
   refine wp_exit <| c_thenE <| c_thenE <| c_exit <| ct ?_
   have ho := oI hp
   subst ho
   exact ⟨y465, rfl, hw, hf.to ⟨rfl, trivial⟩⟩
 ·intro a w hM
  obtain ⟨y485, rfl, hw, hf⟩ := hM
  replace hp := hq487
  refine ct <| wq <| wr <| oa hf rfl rfl fun a hf => oN <| ct <| wq <| wq <| wr <| oR hf (r_loadA hw hf rfl ty_81 0 rfl (vs := (arrC .u32 y485)) (take_all (by simp [arrC_len])) (by simp [arrC_len])) rfl fun a hf => om hf rfl rfl fun a hf => oN <| ct ?_
  replace hw := hw.nilrow 5 1
  have hRR524 : RowR (ekI .u8) I [] [] := RowR.nil
  obtain ⟨out581, hp, hq582⟩ := bS hp
  refine c_cutX (fun a w => ∃ y576 : List Int, ∃ yv577 : Value, ∃ m578 : Nat, ∃ cs579 : List Value, y576 = out581 ∧ Ok E I (.row yv577 5 1 m578 cs579 :: .blk b93 (.cells ⟨arrC .u32 y485⟩ 81 (0, 0)) :: F) w ∧ Fr 45 ([(4, yv577)]) a ∧ RowR (ekI .u8) I cs579 y576) ?_ ?_
  ·refine wp_block <| c_loop <| c_fuel (digest_Of.l1 y485) out581 (fun (y557, y562) a w => ∃ yv558 : Value, ∃ m559 : Nat, ∃ cs560 : List Value, Ok E I (.row yv558 5 1 m559 cs560 :: .blk b93 (.cells ⟨arrC .u32 y485⟩ 81 (0, 0)) :: F) w ∧ Fr 45 ([(4, yv558), (24, Value.agg ⟨arrC .u32 y485⟩), (25, .int .i64 y562)]) a ∧ RowR (ekI .u8) I cs560 y557) (fun _ => rfl) ?_ BIG (([] : List Int), 0) _ _ ⟨(.slice none 0 0), 0, [], hw, hf.to ⟨rfl, rfl, rfl, trivial⟩, hRR524⟩ hp
   intro k st a w hI hp ih
   obtain ⟨y557, y562⟩ := st
   obtain ⟨yv558, m559, cs560, hw, hf, hRR561⟩ := hI
   rw [digest_Of.l1] at hp
   refine wq <| wr <| oR hf (iC hf rfl rfl rfl) rfl fun a hf => oN <| ct <| wq <| cC hf rfl (fun hb584 => ?_) (fun hb584 => ?_)
   ·replace hp := cond_t hb584 hp
    refine wp_skip <| ct <| wq <| wp_block <| wq <| wr ?_
    obtain ⟨hg585, hp⟩ := gS hp
    refine oR hf (r_indexArr hf el_81 ty_80 rfl rfl hg585) rfl fun a hf => oa hf rfl rfl fun a hf => oN <| ct <| wr <| om hf rfl rfl fun a hf => om hf rfl rfl fun a hf => oR hf (r_shr hf rfl rfl (by decide)) rfl fun a hf => oR hf (r_convI hf und_80 und_5 rfl) rfl fun a hf => om hf rfl rfl fun a hf => oR hf (r_shr hf rfl rfl (by decide)) rfl fun a hf => oR hf (r_convI hf und_80 und_5 rfl) rfl fun a hf => om hf rfl rfl fun a hf => oR hf (r_shr hf rfl rfl (by decide)) rfl fun a hf => oR hf (r_convI hf und_80 und_5 rfl) rfl fun a hf => om hf rfl rfl fun a hf => ?_
    refine oR hf (r_convI hf und_80 und_5 rfl) rfl fun a hf => ?_
    obtain ⟨w, v586, hrun587, hw, hRR588⟩ := e_buildSlice (P := P) (K := (ekI .u8)) (m := 4) hw hf (parts := [(0, .tmp 31), (1, .tmp 34), (2, .tmp 37), (3, .tmp 39)]) el_60 ty_5 rfl rfl rfl (ccs := [[Value.int .u8 (wu8 (shr .u32 (vg y485 y562) 24))], [Value.int .u8 (wu8 (shr .u32 (vg y485 y562) 16))], [Value.int .u8 (wu8 (shr .u32 (vg y485 y562) 8))], [Value.int .u8 (wu8 (vg y485 y562))]]) rfl (xs := [wu8 (shr .u32 (vg y485 y562) 24), wu8 (shr .u32 (vg y485 y562) 16), wu8 (shr .u32 (vg y485 y562) 8), wu8 (vg y485 y562)]) ⟨rfl, rfl, rfl, rfl, trivial⟩ rfl
    obtain ⟨cs589, hcs⟩ : ∃ cs, cs = ([[Value.int .u8 (wu8 (shr .u32 (vg y485 y562) 24))], [Value.int .u8 (wu8 (shr .u32 (vg y485 y562) 16))], [Value.int .u8 (wu8 (shr .u32 (vg y485 y562) 8))], [Value.int .u8 (wu8 (vg y485 y562))]] : List (List Value)).flatten := ⟨_, rfl⟩
    rw [← hcs] at hw hRR588; clear hcs
    refine o_eff hf (hrun587 ..) rfl fun a hf => ?_
    obtain ⟨hg591, hp⟩ := gS hp
    obtain ⟨w, v592, m593, cs594, hrun596, hw, hRR595⟩ := e_append (P := P) (K := (ekI .u8)) (ty := 60) hw hf (s := .tmp 28) (x := .tmp 40) el_60 ty_5 rfl (by decide) 1 rfl rfl rfl hRR561 (ys := [wu8 (shr .u32 (vg y485 y562) 24), wu8 (shr .u32 (vg y485 y562) 16), wu8 (shr .u32 (vg y485 y562) 8), wu8 (vg y485 y562)]) (rR (K := (ekI .u8)) hw (i := 0) rfl hRR588) hg591
    replace hw : Ok E I (.row v586 5 1 4 cs589 :: .row v592 5 1 m593 cs594 :: .blk b93 (.cells ⟨arrC .u32 y485⟩ 81 (0, 0)) :: F) w := hw
    refine o_eff hf (hrun596 ..) rfl fun a hf => oa hf rfl rfl fun a hf => oN <| c_blockN <| ct <| wr <| oR hf (r_add hf rfl rfl) rfl fun a hf => om hf rfl rfl fun a hf => oN <| ct ?_
    replace hw : Ok E I (.row v592 5 1 m593 cs594 :: .blk b93 (.cells ⟨arrC .u32 y485⟩ 81 (0, 0)) :: F) w := hw.sub (sc (scc (scc sr)))
    exact ih (y557 ++ [wu8 (shr .u32 (vg y485 y562) 24), wu8 (shr .u32 (vg y485 y562) 16), wu8 (shr .u32 (vg y485 y562) 8), wu8 (vg y485 y562)], w64 (y562 + 1)) _ _ ⟨v592, m593, cs594, hw, hf.to ⟨rfl, rfl, rfl, trivial⟩, hRR595⟩ hp
   ·replace hp := cond_f hb584 hp
    refine wp_exit <| c_thenE <| c_thenE <| c_exit <| ct ?_
    have ho := oI hp
    subst ho
    exact ⟨y557, yv558, m559, cs560, rfl, hw, hf.to ⟨rfl, trivial⟩, hRR561⟩
  ·intro a w hM
   obtain ⟨y576, yv577, m578, cs579, rfl, hw, hf, hRR580⟩ := hM
   replace hp := hq582
   refine ct <| wq <| wr <| om hf rfl rfl fun a hf => oR hf (r_convB hf und_60 und_5 und_9 rfl (rR (K := (ekI .u8)) hw (i := 0) rfl hRR580)) rfl fun a hf => oa hf rfl rfl fun a hf => oN <| ct <| wp_ret ?_
   replace hw : Ok E I (F) w := hw.sub (sc (sc sr))
   have ho := oI hp
   subst ho
   exact b_ret1 hf Go.Proofs.Tryd.results31 rfl ⟨_, rfl, ⟨rfl, hw⟩⟩

theorem node_Hash_ok {E : World} {I : IH} {F : List Atom} {w : World} {a0 : Item} {a0v401 : Value} {res0 : ByteArray} {res1 : Bool} (hw : Ok E I (F) w) (hG : Gl I) (hR402 : RS ekS I a0v401 a0.hashes_) (hp : node_Hash.f a0 = some (res0, res1)) :
  Calls P 29 ⟨[Value.agg ⟨[Value.int .i64 a0.kind_, Value.string a0.path_, Value.bool a0.has_, Value.string a0.value_, Value.int .i64 a0.mask_, a0v401]⟩]⟩ w fun e w' => ∃ v, e = .returned v ∧ v = Value.tuple ⟨[Value.string res0, Value.bool res1]⟩ ∧ Ok E I (F) w' := by
 refine c_enter Go.Proofs.Tryd.func29 rfl Go.Proofs.Tryd.ntmps29 rfl fun a hf => ?_
 replace hf : Fr 15 [(0, Value.agg ⟨[.int .i64 a0.kind_, .string a0.path_, .bool a0.has_, .string a0.value_, .int .i64 a0.mask_, a0v401]⟩)] a := hf
 unfold node_Hash.f at hp
 refine wq <| wr ?_
 obtain ⟨b1, w, hrun2, hw⟩ := e_box (P := P) hw hf (e := 32) (x := .tmp 0) rfl (cs := [Value.int .i64 a0.kind_, Value.string a0.path_, Value.bool a0.has_, Value.string a0.value_, Value.int .i64 a0.mask_, a0v401]) rfl
 refine o_eff hf (hrun2 ..) rfl fun a hf => oa hf rfl rfl fun a hf => oa hf rfl rfl fun a hf => oN <| ct <| wq <| wr <| oR hf (r_loadA hw hf rfl ty_32 0 rfl (vs := [Value.int .i64 a0.kind_, Value.string a0.path_, Value.bool a0.has_, Value.string a0.value_, Value.int .i64 a0.mask_, a0v401]) rfl rfl) rfl fun a hf => ?_
 obtain ⟨y38, hy37, hp⟩ := bS hp
 obtain ⟨y35, y36⟩ := y38
 have hc39 := node_Encode_ok hw hG hR402 hy37
 refine o_call hf cb_28 rfl rfl hc39 (fun v41 w a hK40 hf => ?_)
 obtain ⟨rfl, hw⟩ := hK40
 refine om hf rfl rfl fun a hf => oR hf (rE hf rfl rfl) rfl fun a hf => oR hf (rE hf rfl rfl) rfl fun a hf => oa hf rfl rfl fun a hf => oa hf rfl rfl fun a hf => oN <| ct <| wq <| wq <| wr <| om hf rfl rfl fun a hf => oR hf (r_not hf rfl) rfl fun a hf => oN <| ct <| cC hf rfl (fun hb42 => ?_) (fun hb42 => ?_)
 ·replace hp := cond_t hb42 hp
  refine wq <| wr <| oa hf rfl rfl fun a hf => oa hf rfl rfl fun a hf => oN <| ct <| wp_ret <| c_thenR ?_
  replace hw : Ok E I (F) w := hw.sub (sc sr)
  have ho := oI hp
  simp only [Prod.mk.injEq] at ho
  obtain ⟨rfl, rfl⟩ := ho
  exact b_ret2 hf Go.Proofs.Tryd.results29 rfl rfl ⟨_, rfl, ⟨rfl, hw⟩⟩
 ·replace hp := cond_f hb42 hp
  refine wp_skip <| ct <| wq <| wr <| om hf rfl rfl fun a hf => ?_
  obtain ⟨y598, hy599, hp⟩ := bS hp
  have hc601 := digest_Of_ok hw hG hy599
  refine o_call hf cb_31 rfl rfl hc601 (fun v603 w a hK602 hf => ?_)
  obtain ⟨rfl, hw⟩ := hK602
  refine oa hf rfl rfl fun a hf => oa hf rfl rfl fun a hf => oN <| ct <| wp_ret ?_
  replace hw : Ok E I (F) w := hw.sub (sc sr)
  have ho := oI hp
  simp only [Prod.mk.injEq] at ho
  obtain ⟨rfl, rfl⟩ := ho
  exact b_ret2 hf Go.Proofs.Tryd.results29 rfl rfl ⟨_, rfl, ⟨rfl, hw⟩⟩

theorem root_hashes_ok {E : World} {I : IH} {F : List Atom} {w : World} {a0 : List Node} {a0v64 : Value} {res0 : List ByteArray} (hw : Ok E I (F) w) (hG : Gl I) (hR65 : RS ek_Node I a0v64 a0) (hp : root_hashes.f a0 = some res0) :
  Calls P 41 ⟨[a0v64]⟩ w fun e w' => ∃ v, e = .returned v ∧ ∃ I2 : IH, ∃ rvv139 : Value, v = rvv139 ∧ IH.le I I2 ∧ Ok E I2 (F) w' ∧ RS ekS I2 rvv139 res0 := by
 refine c_enter Go.Proofs.Tryd.func41 rfl Go.Proofs.Tryd.ntmps41 rfl fun a hf => ?_
 replace hf : Fr 29 [(0, a0v64)] a := hf
 unfold root_hashes.f at hp
 refine wq <| wr <| oa hf rfl rfl fun a hf => oN <| ct <| wq <| wr <| om hf rfl rfl fun a hf => oR hf (r_lenL (K := ek_Node) hf el_23 rfl (hR65.rd hw)) rfl fun a hf => ?_
 obtain ⟨hg1, hp⟩ := gS hp
 obtain ⟨w, v2, cs5, hrun3, hw, hRR4⟩ := e_makeSlice (P := P) (K := ekS) hw hf (l := .tmp 6) (c := .tmp 6) el_28 ty_9 rfl (by decide) rfl rfl (x := (⟨#[]⟩ : ByteArray)) (fun _ => rfl) hg1
 refine o_eff hf (hrun3 ..) rfl fun a hf => oa hf rfl rfl fun a hf => oN <| ct <| wq <| wq <| wr <| om hf rfl rfl fun a hf => oR hf (r_lenL (K := ek_Node) hf el_23 rfl (hR65.rd hw)) rfl fun a hf => oR hf (r_sub hf rfl rfl) rfl fun a hf => oa hf rfl rfl fun a hf => oN <| ct ?_
 obtain ⟨out679, hp, hq680⟩ := bS hp
 refine c_cutX (fun a w => ∃ y674 : List ByteArray, ∃ I673 : IH, ∃ yv675 : Value, ∃ m676 : Nat, ∃ cs677 : List Value, y674 = out679 ∧ IH.le I I673 ∧ Ok E I673 (.row yv675 9 1 m676 cs677 :: F) w ∧ Fr 29 ([(3, yv675)]) a ∧ RowR ekS I673 cs677 y674) ?_ ?_
 ·refine wp_block <| c_loop <| c_fuel (root_hashes.l0 a0) out679 (fun (y645, y650) a w => ∃ I644 : IH, ∃ yv646 : Value, ∃ m647 : Nat, ∃ cs648 : List Value, IH.le I I644 ∧ Ok E I644 (.row yv646 9 1 m647 cs648 :: F) w ∧ Fr 29 ([(0, a0v64), (3, yv646), (4, .int .i64 y650)]) a ∧ RowR ekS I644 cs648 y645) (fun _ => rfl) ?_ BIG (List.replicate (a0.length : Int).toNat (⟨#[]⟩ : ByteArray), w64 ((a0.length : Int) - 1)) _ _ ⟨I, v2, (((a0.length : Int)).toNat), cs5, (IH.le_refl _), hw, hf.to ⟨rfl, rfl, rfl, trivial⟩, hRR4⟩ hp
  intro k st a w hI hp ih
  obtain ⟨y645, y650⟩ := st
  obtain ⟨I644, yv646, m647, cs648, hle681, hw, hf, hRR649⟩ := hI
  rw [root_hashes.l0] at hp
  replace hG := hG.mono hle681
  replace hR65 := hR65.mono hle681
  refine wq <| wq <| wr <| om hf rfl rfl fun a hf => oR hf (iC hf rfl rfl rfl) rfl fun a hf => oN <| ct <| cC hf rfl (fun hb682 => ?_) (fun hb682 => ?_)
  ·replace hp := cond_t hb682 hp
   refine wp_skip <| ct <| wq <| wp_block <| wr <| om hf rfl rfl fun a hf => om hf rfl rfl fun a hf => om hf rfl rfl fun a hf => om hf rfl rfl fun a hf => ?_
   obtain ⟨hg683, hp⟩ := gS hp
   refine oR hf (rI (K := ek_Node) hf el_23 rfl rfl (hR65.rd hw) hg683) rfl fun a hf => oR hf (r_loadHP (K := ek_Node) hf rfl ty_55 (hR65.rd hw) hg683 rfl (vs := (Value.int .i64 ((gt a0 y650).kind_) :: Value.string ((gt a0 y650).path_) :: Value.bool ((gt a0 y650).has_) :: Value.string ((gt a0 y650).value_) :: arrC .i64 ((gt a0 y650).kids_))) (fun cs h => Node_all h) (by simp [arrC_len])) rfl fun a hf => om hf rfl rfl fun a hf => ?_
   replace hw : Ok E I644 (.row yv646 9 1 m647 cs648 :: F) w := hw.front (i := 0) rfl
   obtain ⟨y684, hy685, hp⟩ := bS hp
   have hc687 := root_item_r1_ok hw hG hRR649 hy685
   refine o_call hf cb_42 rfl rfl hc687 (fun v691 w a hK688 hf => ?_)
   obtain ⟨I2_688, rvv689, rfl, hle692, hw, hR690⟩ := hK688
   replace hG := hG.mono hle692
   replace hR65 := hR65.mono hle692
   replace hRR649 := hRR649.mono hle692
   obtain ⟨y696, hy695, hp⟩ := bS hp
   obtain ⟨y693, y694⟩ := y696
   have hc697 := node_Hash_ok hw hG hR690 hy695
   refine o_call hf cb_29 rfl rfl hc697 (fun v699 w a hK698 hf => ?_)
   obtain ⟨rfl, hw⟩ := hK698
   refine om hf rfl rfl fun a hf => oR hf (rE hf rfl rfl) rfl fun a hf => oR hf (rE hf rfl rfl) rfl fun a hf => ?_
   obtain ⟨hg700, hp⟩ := gS hp
   refine oR hf (rI (K := ekS) hf el_28 rfl rfl (rR (K := ekS) hw (i := 0) rfl hRR649) hg700) rfl fun a hf => ?_
   obtain ⟨w, cs702, hrun701, hw, hRR703⟩ := e_storeH (P := P) (K := ekS) hw hf (x := .tmp 27) (y := .tmp 25) rfl rfl ty_9 0 rfl hRR649 hg700 rfl (vs := [Value.string y693]) (oE rfl) rfl (oC rfl ones_nil) (Nat.le_of_eq (by rfl)) (x' := y693) (whole_store rfl)
   replace hw : Ok E I2_688 (.row yv646 9 1 m647 cs702 :: F) w := hw
   refine o_effU (hrun701 ..) <| oN <| c_blockN <| ct <| wr <| om hf rfl rfl fun a hf => oR hf (r_sub hf rfl rfl) rfl fun a hf => oa hf rfl rfl fun a hf => oN <| ct ?_
   exact ih (y645.set y650.toNat y693, w64 (y650 - 1)) _ _ ⟨I2_688, yv646, m647, cs702, (IH.le_trans hle681 hle692), hw, hf.to ⟨rfl, rfl, rfl, trivial⟩, hRR703⟩ hp
  ·replace hp := cond_f hb682 hp
   refine wp_exit <| c_thenE <| c_thenE <| c_exit <| ct ?_
   have ho := oI hp
   subst ho
   exact ⟨y645, I644, yv646, m647, cs648, rfl, hle681, hw, hf.to ⟨rfl, trivial⟩, hRR649⟩
 ·intro a w hM
  obtain ⟨y674, I673, yv675, m676, cs677, rfl, hle704, hw, hf, hRR678⟩ := hM
  replace hp := hq680
  replace hG := hG.mono hle704
  refine ct <| wq <| wr <| om hf rfl rfl fun a hf => oa hf rfl rfl fun a hf => oN <| ct <| wp_ret ?_
  have hw : Ok E I673 (.row yv675 9 1 m676 cs677 :: F) w := hw.front (i := 0) rfl
  obtain ⟨I705, hle706, hw, hR707⟩ := row_freeze (K := ekS) hw hRR678
  replace hG := hG.mono hle706
  have ho := oI hp
  subst ho
  exact b_ret1 hf Go.Proofs.Tryd.results41 rfl ⟨_, rfl, ⟨I705, yv675, rfl, (IH.le_trans hle704 hle706), hw, hR707⟩⟩
end Go.Lf
