/- The Go functions compute the plain Lean functions (printed by our lift.py). -/
import Derived.Test.YtckhmgglgbnaaaaDoorZD
import Derived.Test.YtckhmgglgbnaaaaDoorZF
import Derived.Test.YtckhmgglgbnaaaaDoorJ
import Derived.Test.YtckhmgglgbnaaaaDoorZK13
set_option linter.unusedVariables false
set_option linter.unusedSimpArgs false
set_option maxHeartbeats 1000000
set_option maxRecDepth 20000
namespace Go.Lf
open Go
theorem ref04_Start_ok {E : World} {I : IH} {F : List Atom} {w : World} {res0 : Vector Int 8} (hw : Ok E I (F) w) (hG : Gl I) (hp : ref04_Start.f = some res0) :
  Calls P 44 ⟨[]⟩ w fun e w' => ∃ v, e = .returned v ∧ v = Value.agg ⟨arrC .u32 res0⟩ ∧ Ok E I (F) w' := by
 refine c_enter Go.Proofs.Tryd.func44 rfl Go.Proofs.Tryd.ntmps44 rfl fun a hf => ?_
 replace hf : Fr 17 [] a := hf
 unfold ref04_Start.f at hp
 refine wq <| wr ?_
 obtain ⟨b1, w, hrun2, hw⟩ := e_alloc (P := P) (a := a) hw ty_81
 replace hw : Ok E I (.blk b1 (.cells ⟨arrC .u32 (Vector.replicate 8 0 : Vector Int 8)⟩ 81 (0, 0)) :: F) w := hw
 refine o_eff hf (hrun2 ..) rfl fun a hf => oN <| ct <| wq <| wr ?_
 obtain ⟨b4, w, hrun5, hw⟩ := e_alloc (P := P) (a := a) hw ty_81
 replace hw : Ok E I (.blk b4 (.cells ⟨arrC .u32 (Vector.replicate 8 0 : Vector Int 8)⟩ 81 (0, 0)) :: .blk b1 (.cells ⟨arrC .u32 (Vector.replicate 8 0 : Vector Int 8)⟩ 81 (0, 0)) :: F) w := hw
 refine o_eff hf (hrun5 ..) rfl fun a hf => oN <| ct <| wq <| wr ?_
 obtain ⟨y1204, hy1205, hp⟩ := bS hp
 have hc1207 := ref04_primes_ok hw hG hy1205
 refine o_call hf cb_63 rfl rfl hc1207 (fun v1211 w a hK1208 hf => ?_)
 obtain ⟨I2_1208, rvv1209, hv0, hle1212, hw, hR1210⟩ := hK1208
 subst v1211
 replace hG := hG.mono hle1212
 refine oa hf rfl rfl fun a hf => oN <| ct <| wq <| wq <| wr <| oa hf rfl rfl fun a hf => oN <| ct ?_
 obtain ⟨out273, hp, hq274⟩ := bS hp
 refine c_cutX (fun a w => ∃ y272 : Vector Int 8, y272 = out273 ∧ Ok E I2_1208 (.blk b4 (.cells ⟨arrC .u32 y272⟩ 81 (0, 0)) :: .blk b1 (.cells ⟨arrC .u32 (Vector.replicate 8 0 : Vector Int 8)⟩ 81 (0, 0)) :: F) w ∧ Fr 17 ([(0, .pointer (some ⟨b1, 0, none⟩)), (1, .pointer (some ⟨b4, 0, none⟩))]) a) ?_ ?_
 ·refine wp_block <| c_loop <| c_fuel (ref04_Start.l0 y1204) out273 (fun (y260, y261) a w => Ok E I2_1208 (.blk b4 (.cells ⟨arrC .u32 y260⟩ 81 (0, 0)) :: .blk b1 (.cells ⟨arrC .u32 (Vector.replicate 8 0 : Vector Int 8)⟩ 81 (0, 0)) :: F) w ∧ Fr 17 ([(0, .pointer (some ⟨b1, 0, none⟩)), (1, .pointer (some ⟨b4, 0, none⟩)), (2, rvv1209), (3, .int .i64 y261)]) a) (fun _ => rfl) ?_ BIG ((Vector.replicate 8 0 : Vector Int 8), 0) _ _ ⟨hw, hf.to ⟨rfl, rfl, rfl, rfl, trivial⟩⟩ hp
  intro k st a w hI hp ih
  obtain ⟨y260, y261⟩ := st
  obtain ⟨hw, hf⟩ := hI
  rw [ref04_Start.l0] at hp
  refine wq <| wq <| wr <| om hf rfl rfl fun a hf => oR hf (iC hf rfl rfl rfl) rfl fun a hf => oN <| ct <| cC hf rfl (fun hb276 => ?_) (fun hb276 => ?_)
  ·replace hp := cond_t hb276 hp
   refine wp_skip <| ct <| wq <| wp_block <| wr <| om hf rfl rfl fun a hf => om hf rfl rfl fun a hf => om hf rfl rfl fun a hf => ?_
   obtain ⟨hg277, hp⟩ := gS hp
   refine oR hf (rI (K := (ekI .u64)) hf el_108 rfl rfl (hR1210.rd hw) hg277) rfl fun a hf => oR hf (r_loadH (K := (ekI .u64)) hf rfl ty_111 (hR1210.rd hw) hg277 rfl (fun cs h => ekI_f0 h)) rfl fun a hf => ?_
   obtain ⟨y278, hy279, hp⟩ := bS hp
   have hc281 := ref04_square_ok hw hG hy279
   refine o_call hf cb_64 rfl rfl hc281 (fun v283 w a hK282 hf => ?_)
   obtain ⟨rfl, hw⟩ := hK282
   obtain ⟨hg284, hp⟩ := gS hp
   refine oR hf (r_indexAddrA hf el_81 rfl rfl hg284) rfl fun a hf => ?_
   obtain ⟨w, hrun285, hw⟩ := e_store (P := P) hw hf (x := .tmp 15) (y := .tmp 14) rfl rfl ty_80 0 rfl (vs := [Value.int .u32 y278]) rfl rfl (oC rfl ones_nil) (by first | (simp [arrC_len] <;> omega) | (have h := hg284; try (simp only [w64, wu8, wu16, wu32, wu64] at h); simp only [List.length_cons, arrC_len]; omega)) (cs' := (arrC .u32 (vset y260 y261 y278))) (arr_store (pre := ([] : List Value)) (v := y260) rfl rfl rfl hg284)
   replace hw : Ok E I2_1208 (.blk b4 (.cells ⟨arrC .u32 (vset y260 y261 y278)⟩ 81 (0, 0)) :: .blk b1 (.cells ⟨arrC .u32 (Vector.replicate 8 0 : Vector Int 8)⟩ 81 (0, 0)) :: F) w := hw
   refine o_effU (hrun285 ..) <| oN <| c_blockN <| ct <| wr <| om hf rfl rfl fun a hf => oR hf (r_add hf rfl rfl) rfl fun a hf => oa hf rfl rfl fun a hf => oN <| ct ?_
   exact ih (vset y260 y261 y278, w64 (y261 + 1)) _ _ ⟨hw, hf.to ⟨rfl, rfl, rfl, rfl, trivial⟩⟩ hp
  ·replace hp := cond_f hb276 hp
   refine wp_exit <| c_thenE <| c_thenE <| c_exit <| ct ?_
   have ho := oI hp
   subst ho
   exact ⟨y260, rfl, hw, hf.to ⟨rfl, rfl, trivial⟩⟩
 ·intro a w hM
  obtain ⟨y272, rfl, hw, hf⟩ := hM
  replace hp := hq274
  refine ct <| wq <| wr <| oR hf (r_loadA hw hf rfl ty_81 0 rfl (vs := (arrC .u32 y272)) (take_all (by simp [arrC_len])) (by simp [arrC_len])) rfl fun a hf => ?_
  obtain ⟨w, hrun287, hw⟩ := e_store (P := P) hw hf (x := .tmp 0) (y := .tmp 16) rfl rfl ty_81 1 rfl (vs := (arrC .u32 y272)) rfl (by simp [arrC_len]) (arrC_one _ _) (by simp [arrC_len]) (cs' := (arrC .u32 y272)) (by simp [arrC_len])
  replace hw : Ok E I2_1208 (.blk b4 (.cells ⟨arrC .u32 y272⟩ 81 (0, 0)) :: .blk b1 (.cells ⟨arrC .u32 y272⟩ 81 (0, 0)) :: F) w := hw
  refine o_effU (hrun287 ..) <| oN <| ct <| wp_ret ?_
  replace hw : Ok E I2_1208 (.blk b1 (.cells ⟨arrC .u32 y272⟩ 81 (0, 0)) :: F) w := hw.sub (sc (scc sr))
  have ho := oI hp
  subst ho
  exact b_retC hw hf Go.Proofs.Tryd.results44 ty_81 rfl 0 rfl (vs := (arrC .u32 y272)) (take_all (by simp [arrC_len])) (by simp [arrC_len]) ⟨_, rfl, ⟨rfl, (hw.tail.back hle1212 sr)⟩⟩

theorem ref04_cube_ok {E : World} {I : IH} {F : List Atom} {w : World} {a0 : Int} {res0 : Int} (hw : Ok E I (F) w) (hG : Gl I) (hp : ref04_cube.f a0 = some res0) :
  Calls P 65 ⟨[Value.int .u64 a0]⟩ w fun e w' => ∃ v, e = .returned v ∧ v = Value.int .u32 res0 ∧ Ok E I (F) w' := by
 refine c_enter Go.Proofs.Tryd.func65 rfl Go.Proofs.Tryd.ntmps65 rfl fun a hf => ?_
 replace hf : Fr 61 [(0, .int .u64 a0)] a := hf
 unfold ref04_cube.f at hp
 refine wq <| wr <| oa hf rfl rfl fun a hf => oN <| ct <| wq <| wr <| oa hf rfl rfl fun a hf => oN <| ct <| wq <| wq <| wr <| oa hf rfl rfl fun a hf => oN <| ct ?_
 obtain ⟨out306, hp, hq307⟩ := bS hp
 refine c_cutX (fun a w => ∃ y305 : Int, y305 = out306 ∧ Ok E I (F) w ∧ Fr 61 ([(3, .int .u64 y305)]) a) ?_ ?_
 ·refine wp_block <| c_loop <| c_fuel (ref04_cube.l0 a0) out306 (fun (y203, y204) a w => Ok E I (F) w ∧ Fr 61 ([(0, .int .u64 a0), (3, .int .u64 y203), (4, .int .i64 y204)]) a) (fun _ => rfl) ?_ BIG (0, 35) _ _ ⟨hw, hf.to ⟨rfl, rfl, rfl, trivial⟩⟩ hp
  intro k st a w hI hp ih
  obtain ⟨y203, y204⟩ := st
  obtain ⟨hw, hf⟩ := hI
  rw [ref04_cube.l0] at hp
  refine wq <| wq <| wr <| om hf rfl rfl fun a hf => oR hf (iC hf rfl rfl rfl) rfl fun a hf => oN <| ct <| cC hf rfl (fun hb309 => ?_) (fun hb309 => ?_)
  ·replace hp := cond_t hb309 hp
   refine wp_skip <| ct ?_
   obtain ⟨out375, hp, hq376⟩ := bS hp
   refine c_cut (fun a w => ∃ y374 : Int, y374 = out375 ∧ Ok E I (F) w ∧ Fr 61 ([(0, .int .u64 a0), (3, .int .u64 y374), (4, .int .i64 y204)]) a) ?_ ?_
   ·refine wp_block <| wq <| wr <| om hf rfl rfl fun a hf => om hf rfl rfl fun a hf => oR hf (r_convI hf und_3 und_56 rfl) rfl fun a hf => ?_
    obtain ⟨hg377, hp⟩ := gS hp
    refine oR hf (r_shl hf rfl rfl hg377) rfl fun a hf => oR hf (r_or hf rfl rfl) rfl fun a hf => oa hf rfl rfl fun a hf => oN <| ct <| wq <| wr <| om hf rfl rfl fun a hf => om hf rfl rfl fun a hf => ?_
    obtain ⟨y381, hy380, hp⟩ := bS hp
    obtain ⟨y378, y379⟩ := y381
    have hc382 := ref04_times_ok hw hG hy380
    refine o_call hf cb_90 rfl rfl hc382 (fun v384 w a hK383 hf => ?_)
    obtain ⟨rfl, hw⟩ := hK383
    refine om hf rfl rfl fun a hf => oR hf (rE hf rfl rfl) rfl fun a hf => oR hf (rE hf rfl rfl) rfl fun a hf => oa hf rfl rfl fun a hf => oa hf rfl rfl fun a hf => oN <| ct <| wq <| wr <| om hf rfl rfl fun a hf => om hf rfl rfl fun a hf => ?_
    obtain ⟨y388, hy387, hp⟩ := bS hp
    obtain ⟨y385, y386⟩ := y388
    have hc389 := ref04_times_ok hw hG hy387
    refine o_call hf cb_90 rfl rfl hc389 (fun v391 w a hK390 hf => ?_)
    obtain ⟨rfl, hw⟩ := hK390
    refine om hf rfl rfl fun a hf => oR hf (rE hf rfl rfl) rfl fun a hf => oR hf (rE hf rfl rfl) rfl fun a hf => oa hf rfl rfl fun a hf => oa hf rfl rfl fun a hf => oN <| ct <| wq <| wr <| om hf rfl rfl fun a hf => om hf rfl rfl fun a hf => ?_
    obtain ⟨y395, hy394, hp⟩ := bS hp
    obtain ⟨y392, y393⟩ := y395
    have hc396 := ref04_times_ok hw hG hy394
    refine o_call hf cb_90 rfl rfl hc396 (fun v398 w a hK397 hf => ?_)
    obtain ⟨rfl, hw⟩ := hK397
    refine om hf rfl rfl fun a hf => oR hf (rE hf rfl rfl) rfl fun a hf => oR hf (rE hf rfl rfl) rfl fun a hf => oa hf rfl rfl fun a hf => oa hf rfl rfl fun a hf => oN <| ct <| wq <| wr <| om hf rfl rfl fun a hf => om hf rfl rfl fun a hf => oR hf (r_add hf rfl rfl) rfl fun a hf => oa hf rfl rfl fun a hf => oN <| ct <| wq ?_
    refine wr <| om hf rfl rfl fun a hf => oR hf (r_shl hf rfl rfl (by decide)) rfl fun a hf => oa hf rfl rfl fun a hf => oN <| ct ?_
    obtain ⟨out404, hp, hq405⟩ := bS hp
    refine c_cut (fun a w => ∃ y403 : Bool, y403 = out404 ∧ Ok E I (F) w ∧ Fr 61 ([(0, .int .u64 a0), (3, .int .u64 y203), (4, .int .i64 y204), (5, .int .u64 (bor .u64 y203 (shl .u64 1 (wu64 y204)))), (57, .bool y403)]) a) ?_ ?_
    ·refine wr <| om hf rfl rfl fun a hf => om hf rfl rfl fun a hf => oR hf (iC hf rfl rfl rfl) rfl fun a hf => om hf rfl rfl fun a hf => g_split hf (g := 49) rfl (fun hb406 hf => ?_) (fun hb406 hf => ?_)
     ·replace hp := cond_t hb406 hp
      refine oS hf (g := 49) rfl rfl rfl rfl rfl rfl fun a hf => oS hf (g := 49) rfl rfl rfl rfl rfl rfl fun a hf => oS hf (g := 49) rfl rfl rfl rfl rfl rfl fun a hf => oS hf (g := 49) rfl rfl rfl rfl rfl rfl fun a hf => o_skipU hf (g := 53) rfl rfl rfl rfl rfl fun a hf => o_skipU hf (g := 53) rfl rfl rfl rfl rfl fun a hf => oS hf (g := 49) rfl rfl rfl rfl rfl rfl fun a hf => oR hf (pT hf rfl rfl) rfl fun a hf => oN <| ct ?_
      have ho := oI hp
      subst ho
      exact ⟨true, rfl, hw, hf.to ⟨rfl, rfl, rfl, rfl, rfl, trivial⟩⟩
     ·replace hp := cond_f hb406 hp
      refine oW hf (g := 49) rfl rfl <| om hf rfl rfl fun a hf => oW hf (g := 49) rfl rfl <| om hf rfl rfl fun a hf => oW hf (g := 49) rfl rfl <| oR hf (iC hf rfl rfl rfl) rfl fun a hf => oW hf (g := 49) rfl rfl <| om hf rfl rfl fun a hf => g_split hf (g := 53) rfl (fun hb407 hf => ?_) (fun hb407 hf => ?_)
      ·replace hp := cond_t hb407 hp
       refine oW hf (g := 53) rfl rfl <| om hf rfl rfl fun a hf => oW hf (g := 53) rfl rfl <| oR hf (iC hf rfl rfl rfl) rfl fun a hf => oW hf (g := 49) rfl rfl <| oR hf (pT hf rfl rfl) rfl fun a hf => oR hf (pF hf rfl rfl) rfl fun a hf => oN <| ct ?_
       have ho := oI hp
       subst ho
       exact ⟨(y386 == 0), rfl, hw, hf.to ⟨rfl, rfl, rfl, rfl, rfl, trivial⟩⟩
      ·replace hp := cond_f hb407 hp
       refine oS hf (g := 53) rfl rfl rfl rfl rfl rfl fun a hf => oS hf (g := 53) rfl rfl rfl rfl rfl rfl fun a hf => oW hf (g := 49) rfl rfl <| oR hf (pF hf rfl rfl) rfl fun a hf => oR hf (pF hf rfl rfl) rfl fun a hf => oN <| ct ?_
       have ho := oI hp
       subst ho
       exact ⟨false, rfl, hw, hf.to ⟨rfl, rfl, rfl, rfl, rfl, trivial⟩⟩
    ·intro a w hM
     obtain ⟨y403, rfl, hw, hf⟩ := hM
     replace hp := hq405
     refine cC hf rfl (fun hb408 => ?_) (fun hb408 => ?_)
     ·replace hp := cond_t hb408 hp
      refine wr <| om hf rfl rfl fun a hf => oa hf rfl rfl fun a hf => oN <| c_blockN <| ct ?_
      have ho := oI hp
      subst ho
      exact ⟨(bor .u64 y203 (shl .u64 1 (wu64 y204))), rfl, hw, hf.to ⟨rfl, rfl, rfl, trivial⟩⟩
     ·replace hp := cond_f hb408 hp
      refine wp_skip <| c_blockN <| ct ?_
      have ho := oI hp
      subst ho
      exact ⟨y203, rfl, hw, hf.to ⟨rfl, rfl, rfl, trivial⟩⟩
   ·intro a w hM
    obtain ⟨y374, rfl, hw, hf⟩ := hM
    replace hp := hq376
    refine wr <| om hf rfl rfl fun a hf => oR hf (r_sub hf rfl rfl) rfl fun a hf => oa hf rfl rfl fun a hf => oN <| ct ?_
    exact ih (y374, w64 (y204 - 1)) _ _ ⟨hw, hf.to ⟨rfl, rfl, rfl, trivial⟩⟩ hp
  ·replace hp := cond_f hb309 hp
   refine wp_exit <| c_thenE <| c_thenE <| c_exit <| ct ?_
   have ho := oI hp
   subst ho
   exact ⟨y203, rfl, hw, hf.to ⟨rfl, trivial⟩⟩
 ·intro a w hM
  obtain ⟨y305, rfl, hw, hf⟩ := hM
  replace hp := hq307
  refine ct <| wq <| wr <| om hf rfl rfl fun a hf => oR hf (r_convI hf und_111 und_80 rfl) rfl fun a hf => oa hf rfl rfl fun a hf => oN <| ct <| wp_ret ?_
  have ho := oI hp
  subst ho
  exact b_ret1 hf Go.Proofs.Tryd.results65 rfl ⟨_, rfl, ⟨rfl, hw⟩⟩

theorem ref04_Constants_ok {E : World} {I : IH} {F : List Atom} {w : World} {res0 : Vector Int 64} (hw : Ok E I (F) w) (hG : Gl I) (hp : ref04_Constants.f = some res0) :
  Calls P 45 ⟨[]⟩ w fun e w' => ∃ v, e = .returned v ∧ v = Value.agg ⟨arrC .u32 res0⟩ ∧ Ok E I (F) w' := by
 refine c_enter Go.Proofs.Tryd.func45 rfl Go.Proofs.Tryd.ntmps45 rfl fun a hf => ?_
 replace hf : Fr 17 [] a := hf
 unfold ref04_Constants.f at hp
 refine wq <| wr ?_
 obtain ⟨b1, w, hrun2, hw⟩ := e_alloc (P := P) (a := a) hw ty_83
 replace hw : Ok E I (.blk b1 (.cells ⟨arrC .u32 (Vector.replicate 64 0 : Vector Int 64)⟩ 83 (0, 0)) :: F) w := hw
 refine o_eff hf (hrun2 ..) rfl fun a hf => oN <| ct <| wq <| wr ?_
 obtain ⟨b4, w, hrun5, hw⟩ := e_alloc (P := P) (a := a) hw ty_83
 replace hw : Ok E I (.blk b4 (.cells ⟨arrC .u32 (Vector.replicate 64 0 : Vector Int 64)⟩ 83 (0, 0)) :: .blk b1 (.cells ⟨arrC .u32 (Vector.replicate 64 0 : Vector Int 64)⟩ 83 (0, 0)) :: F) w := hw
 refine o_eff hf (hrun5 ..) rfl fun a hf => oN <| ct <| wq <| wr ?_
 obtain ⟨y7, hy8, hp⟩ := bS hp
 have hc10 := ref04_primes_ok hw hG hy8
 refine o_call hf cb_63 rfl rfl hc10 (fun v14 w a hK11 hf => ?_)
 obtain ⟨I2_11, rvv12, hv0, hle15, hw, hR13⟩ := hK11
 subst v14
 replace hG := hG.mono hle15
 refine oa hf rfl rfl fun a hf => oN <| ct <| wq <| wq <| wr <| oa hf rfl rfl fun a hf => oN <| ct ?_
 obtain ⟨out443, hp, hq444⟩ := bS hp
 refine c_cutX (fun a w => ∃ y442 : Vector Int 64, y442 = out443 ∧ Ok E I2_11 (.blk b4 (.cells ⟨arrC .u32 y442⟩ 83 (0, 0)) :: .blk b1 (.cells ⟨arrC .u32 (Vector.replicate 64 0 : Vector Int 64)⟩ 83 (0, 0)) :: F) w ∧ Fr 17 ([(0, .pointer (some ⟨b1, 0, none⟩)), (1, .pointer (some ⟨b4, 0, none⟩))]) a) ?_ ?_
 ·refine wp_block <| c_loop <| c_fuel (ref04_Constants.l0 y7) out443 (fun (y430, y431) a w => Ok E I2_11 (.blk b4 (.cells ⟨arrC .u32 y430⟩ 83 (0, 0)) :: .blk b1 (.cells ⟨arrC .u32 (Vector.replicate 64 0 : Vector Int 64)⟩ 83 (0, 0)) :: F) w ∧ Fr 17 ([(0, .pointer (some ⟨b1, 0, none⟩)), (1, .pointer (some ⟨b4, 0, none⟩)), (2, rvv12), (3, .int .i64 y431)]) a) (fun _ => rfl) ?_ BIG ((Vector.replicate 64 0 : Vector Int 64), 0) _ _ ⟨hw, hf.to ⟨rfl, rfl, rfl, rfl, trivial⟩⟩ hp
  intro k st a w hI hp ih
  obtain ⟨y430, y431⟩ := st
  obtain ⟨hw, hf⟩ := hI
  rw [ref04_Constants.l0] at hp
  refine wq <| wq <| wr <| om hf rfl rfl fun a hf => oR hf (iC hf rfl rfl rfl) rfl fun a hf => oN <| ct <| cC hf rfl (fun hb446 => ?_) (fun hb446 => ?_)
  ·replace hp := cond_t hb446 hp
   refine wp_skip <| ct <| wq <| wp_block <| wr <| om hf rfl rfl fun a hf => om hf rfl rfl fun a hf => om hf rfl rfl fun a hf => ?_
   obtain ⟨hg447, hp⟩ := gS hp
   refine oR hf (rI (K := (ekI .u64)) hf el_108 rfl rfl (hR13.rd hw) hg447) rfl fun a hf => oR hf (r_loadH (K := (ekI .u64)) hf rfl ty_111 (hR13.rd hw) hg447 rfl (fun cs h => ekI_f0 h)) rfl fun a hf => ?_
   obtain ⟨y448, hy449, hp⟩ := bS hp
   have hc451 := ref04_cube_ok hw hG hy449
   refine o_call hf cb_65 rfl rfl hc451 (fun v453 w a hK452 hf => ?_)
   obtain ⟨rfl, hw⟩ := hK452
   obtain ⟨hg454, hp⟩ := gS hp
   refine oR hf (r_indexAddrA hf el_83 rfl rfl hg454) rfl fun a hf => ?_
   obtain ⟨w, hrun455, hw⟩ := e_store (P := P) hw hf (x := .tmp 15) (y := .tmp 14) rfl rfl ty_80 0 rfl (vs := [Value.int .u32 y448]) rfl rfl (oC rfl ones_nil) (by first | (simp [arrC_len] <;> omega) | (have h := hg454; try (simp only [w64, wu8, wu16, wu32, wu64] at h); simp only [List.length_cons, arrC_len]; omega)) (cs' := (arrC .u32 (vset y430 y431 y448))) (arr_store (pre := ([] : List Value)) (v := y430) rfl rfl rfl hg454)
   replace hw : Ok E I2_11 (.blk b4 (.cells ⟨arrC .u32 (vset y430 y431 y448)⟩ 83 (0, 0)) :: .blk b1 (.cells ⟨arrC .u32 (Vector.replicate 64 0 : Vector Int 64)⟩ 83 (0, 0)) :: F) w := hw
   refine o_effU (hrun455 ..) <| oN <| c_blockN <| ct <| wr <| om hf rfl rfl fun a hf => oR hf (r_add hf rfl rfl) rfl fun a hf => oa hf rfl rfl fun a hf => oN <| ct ?_
   exact ih (vset y430 y431 y448, w64 (y431 + 1)) _ _ ⟨hw, hf.to ⟨rfl, rfl, rfl, rfl, trivial⟩⟩ hp
  ·replace hp := cond_f hb446 hp
   refine wp_exit <| c_thenE <| c_thenE <| c_exit <| ct ?_
   have ho := oI hp
   subst ho
   exact ⟨y430, rfl, hw, hf.to ⟨rfl, rfl, trivial⟩⟩
 ·intro a w hM
  obtain ⟨y442, rfl, hw, hf⟩ := hM
  replace hp := hq444
  refine ct <| wq <| wr <| oR hf (r_loadA hw hf rfl ty_83 0 rfl (vs := (arrC .u32 y442)) (take_all (by simp [arrC_len])) (by simp [arrC_len])) rfl fun a hf => ?_
  obtain ⟨w, hrun457, hw⟩ := e_store (P := P) hw hf (x := .tmp 0) (y := .tmp 16) rfl rfl ty_83 1 rfl (vs := (arrC .u32 y442)) rfl (by simp [arrC_len]) (arrC_one _ _) (by simp [arrC_len]) (cs' := (arrC .u32 y442)) (by simp [arrC_len])
  replace hw : Ok E I2_11 (.blk b4 (.cells ⟨arrC .u32 y442⟩ 83 (0, 0)) :: .blk b1 (.cells ⟨arrC .u32 y442⟩ 83 (0, 0)) :: F) w := hw
  refine o_effU (hrun457 ..) <| oN <| ct <| wp_ret ?_
  replace hw : Ok E I2_11 (.blk b1 (.cells ⟨arrC .u32 y442⟩ 83 (0, 0)) :: F) w := hw.sub (sc (scc sr))
  have ho := oI hp
  subst ho
  exact b_retC hw hf Go.Proofs.Tryd.results45 ty_83 rfl 0 rfl (vs := (arrC .u32 y442)) (take_all (by simp [arrC_len])) (by simp [arrC_len]) ⟨_, rfl, ⟨rfl, (hw.tail.back hle15 sr)⟩⟩

theorem ref02_Good_ok {E : World} {I : IH} {F : List Atom} {w : World} {a0 : ByteArray} {res0 : Bool} (hw : Ok E I (F) w) (hG : Gl I) (hp : ref02_Good.f a0 = some res0) :
  Calls P 92 ⟨[Value.string a0]⟩ w fun e w' => ∃ v, e = .returned v ∧ v = Value.bool res0 ∧ Ok E I (F) w' := by
 refine c_enter Go.Proofs.Tryd.func92 rfl Go.Proofs.Tryd.ntmps92 rfl fun a hf => ?_
 replace hf : Fr 17 [(0, .string a0)] a := hf
 unfold ref02_Good.f at hp
 refine wq <| wr <| oa hf rfl rfl fun a hf => oN <| ct <| wq <| wq <| wr <| oa hf rfl rfl fun a hf => oN <| ct ?_
 obtain ⟨out12, hp, hq13⟩ := bS hp
 refine c_cutX (fun a w => (.inl ()) = out12 ∧ Ok E I (F) w ∧ Fr 17 ([(0, .string a0)]) a) ?_ ?_
 ·refine wp_block <| c_loop <| c_fuel (ref02_Good.l0 a0) out12 (fun (y8 : Int) a w => Ok E I (F) w ∧ Fr 17 ([(0, .string a0), (3, .int .i64 y8)]) a) (fun _ => rfl) ?_ BIG 0 _ _ ⟨hw, hf.to ⟨rfl, rfl, trivial⟩⟩ hp
  intro k y8 a w hI hp ih
  obtain ⟨hw, hf⟩ := hI
  rw [ref02_Good.l0] at hp
  refine wq <| wq <| wr <| om hf rfl rfl fun a hf => om hf rfl rfl fun a hf => oR hf (r_lenS hf und_9 rfl) rfl fun a hf => oR hf (iC hf rfl rfl rfl) rfl fun a hf => oN <| ct <| cC hf rfl (fun hb15 => ?_) (fun hb15 => ?_)
  ·replace hp := cond_t hb15 hp
   refine wp_skip <| ct <| wq <| wp_block <| wq <| wr <| om hf rfl rfl fun a hf => om hf rfl rfl fun a hf => ?_
   obtain ⟨hg16, hp⟩ := gS hp
   refine oR hf (r_indexS hf und_9 rfl rfl hg16) rfl fun a hf => oR hf (iC hf rfl rfl rfl) rfl fun a hf => oN <| ct <| cC hf rfl (fun hb17 => ?_) (fun hb17 => ?_)
   ·replace hp := cond_t hb17 hp
    refine wq <| wr <| oa hf rfl rfl fun a hf => oN <| ct <| wp_ret <| c_blockR <| c_thenR <| c_thenR <| c_blockR <| c_thenR ?_
    have ho := oI hp
    subst ho
    replace hp := hq13
    refine c_thenR ?_
    have ho := oI hp
    subst ho
    exact b_ret1 hf Go.Proofs.Tryd.results92 rfl ⟨_, rfl, ⟨rfl, hw⟩⟩
   ·replace hp := cond_f hb17 hp
    refine wp_skip <| c_blockN <| ct <| wr <| om hf rfl rfl fun a hf => oR hf (r_add hf rfl rfl) rfl fun a hf => oa hf rfl rfl fun a hf => oN <| ct ?_
    exact ih (w64 (y8 + 1)) _ _ ⟨hw, hf.to ⟨rfl, rfl, trivial⟩⟩ hp
  ·replace hp := cond_f hb15 hp
   refine wp_exit <| c_thenE <| c_thenE <| c_exit <| ct ?_
   have ho := oI hp
   subst ho
   exact ⟨rfl, hw, hf.to ⟨rfl, trivial⟩⟩
 ·intro a w hM
  obtain ⟨rfl, hw, hf⟩ := hM
  replace hp := hq13
  refine ct <| wq <| wr <| om hf rfl rfl fun a hf => oR hf (r_lenS hf und_9 rfl) rfl fun a hf => oR hf (iC hf rfl rfl rfl) rfl fun a hf => oa hf rfl rfl fun a hf => oN <| ct <| wp_ret ?_
  have ho := oI hp
  subst ho
  exact b_ret1 hf Go.Proofs.Tryd.results92 rfl ⟨_, rfl, ⟨rfl, hw⟩⟩

theorem ref09_Bits_ok {E : World} {I : IH} {F : List Atom} {w : World} {a0 : Int} {res0 : Int} (hw : Ok E I (F) w) (hG : Gl I) (hp : ref09_Bits.f a0 = some res0) :
  Calls P 93 ⟨[Value.int .i64 a0]⟩ w fun e w' => ∃ v, e = .returned v ∧ v = Value.int .i64 res0 ∧ Ok E I (F) w' := by
 refine c_enter Go.Proofs.Tryd.func93 rfl Go.Proofs.Tryd.ntmps93 rfl fun a hf => ?_
 replace hf : Fr 17 [(0, .int .i64 a0)] a := hf
 unfold ref09_Bits.f at hp
 refine wq <| wr <| oa hf rfl rfl fun a hf => oN <| ct <| wq <| wr <| oa hf rfl rfl fun a hf => oN <| ct <| wq <| wq <| wr <| oa hf rfl rfl fun a hf => oN <| ct ?_
 obtain ⟨out12, hp, hq13⟩ := bS hp
 refine c_cutX (fun a w => ∃ y11 : Int, y11 = out12 ∧ Ok E I (F) w ∧ Fr 17 ([(3, .int .i64 y11)]) a) ?_ ?_
 ·refine wp_block <| c_loop <| c_fuel (ref09_Bits.l0 a0) out12 (fun (y7, y8) a w => Ok E I (F) w ∧ Fr 17 ([(0, .int .i64 a0), (3, .int .i64 y7), (4, .int .i64 y8)]) a) (fun _ => rfl) ?_ BIG (0, 0) _ _ ⟨hw, hf.to ⟨rfl, rfl, rfl, trivial⟩⟩ hp
  intro k st a w hI hp ih
  obtain ⟨y7, y8⟩ := st
  obtain ⟨hw, hf⟩ := hI
  rw [ref09_Bits.l0] at hp
  refine wq <| wq <| wr <| om hf rfl rfl fun a hf => oR hf (iC hf rfl rfl rfl) rfl fun a hf => oN <| ct <| cC hf rfl (fun hb15 => ?_) (fun hb15 => ?_)
  ·replace hp := cond_t hb15 hp
   refine wp_skip <| ct <| wq <| wp_block <| wr <| om hf rfl rfl fun a hf => om hf rfl rfl fun a hf => om hf rfl rfl fun a hf => oR hf (r_convI hf und_3 und_56 rfl) rfl fun a hf => ?_
   obtain ⟨hg16, hp⟩ := gS hp
   refine oR hf (r_shr hf rfl rfl hg16) rfl fun a hf => oR hf (r_and hf rfl rfl) rfl fun a hf => oR hf (r_add hf rfl rfl) rfl fun a hf => oa hf rfl rfl fun a hf => oN <| c_blockN <| ct <| wr <| om hf rfl rfl fun a hf => oR hf (r_add hf rfl rfl) rfl fun a hf => oa hf rfl rfl fun a hf => oN <| ct ?_
   exact ih (w64 (y7 + (band .i64 (shr .i64 a0 (wu64 y8)) 1)), w64 (y8 + 1)) _ _ ⟨hw, hf.to ⟨rfl, rfl, rfl, trivial⟩⟩ hp
  ·replace hp := cond_f hb15 hp
   refine wp_exit <| c_thenE <| c_thenE <| c_exit <| ct ?_
   have ho := oI hp
   subst ho
   exact ⟨y7, rfl, hw, hf.to ⟨rfl, trivial⟩⟩
 ·intro a w hM
  obtain ⟨y11, rfl, hw, hf⟩ := hM
  replace hp := hq13
  refine ct <| wq <| wr <| om hf rfl rfl fun a hf => oa hf rfl rfl fun a hf => oN <| ct <| wp_ret ?_
  have ho := oI hp
  subst ho
  exact b_ret1 hf Go.Proofs.Tryd.results93 rfl ⟨_, rfl, ⟨rfl, hw⟩⟩
end Go.Lf
