import Derived.Test.YtckhmgglgbnaaaaGreatDoorZD
import Derived.Test.YtckhmgglgbnaaaaGreatDoorZF
import Derived.Test.YtckhmgglgbnaaaaGreatDoorJ
import Derived.Test.YtckhmgglgbnaaaaGreatDoorUB
import Derived.Test.YtckhmgglgbnaaaaGreatDoorZK4
set_option linter.unusedVariables false
set_option linter.unusedSimpArgs false
set_option maxHeartbeats 1000000
set_option maxRecDepth 20000
namespace Go.Lf
open Go Go.Proofs.Tryz
theorem ref04_Constants_ok {E : World} {I : IH} {F : List Atom} {w : World} {res0 : Vector Int 64} (hw : Ok E I (F) w) (hG : Gl I) (hp : ref04_Constants.f = some res0) :
  Calls P 74 ⟨[]⟩ w fun e w' => ∃ v, e = .returned v ∧ v = Value.agg ⟨arrC .u32 res0⟩ ∧ Ok E I (F) w' := by
 refine c_enter func74 rfl ntmps74 rfl fun a hf => ?_
 replace hf : Fr 17 [] a := hf
 unfold ref04_Constants.f at hp
 refine wq <| wr ?_
 obtain ⟨b1, w, hrun2, hw⟩ := e_alloc (P := P) (a := a) hw ty_165
 refine o_eff hf (hrun2 ..) rfl fun a hf => oN <| ct <| wq <| wr ?_
 obtain ⟨b4, w, hrun5, hw⟩ := e_alloc (P := P) (a := a) hw ty_165
 refine o_eff hf (hrun5 ..) rfl fun a hf => oN <| ct <| wq <| wr ?_
 obtain ⟨y7, hy8, hp⟩ := bS hp
 have hc10 := ref04_primes_ok hw hG hy8
 refine o_call hf cb_108 rfl rfl hc10 (fun v14 w a hK11 hf => ?_)
 obtain ⟨I2_11, rvv12, hv0, hle15, hw, hR13⟩ := hK11
 subst v14
 replace hG := hG.mono hle15
 refine oa hf rfl rfl fun a hf => oN <| ct <| wq <| wq <| wr <| oa hf rfl rfl fun a hf => oN <| ct ?_
 obtain ⟨out443, hp, hq444⟩ := bS hp
 refine c_cutX (fun a w => ∃ y442 : Vector Int 64, y442 = out443 ∧ Ok E I2_11 (.blk b4 (.cells ⟨arrC .u32 y442⟩ 165 (0, 0)) :: .blk b1 (.cells ⟨arrC .u32 (Vector.replicate 64 0 : Vector Int 64)⟩ 165 (0, 0)) :: F) w ∧ Fr 17 ([(0, .pointer (some ⟨b1, 0, none⟩)), (1, .pointer (some ⟨b4, 0, none⟩))]) a) ?_ ?_
 ·refine wp_block <| c_loop <| c_fuel (ref04_Constants.l0 y7) out443 (fun (y430, y431) a w => Ok E I2_11 (.blk b4 (.cells ⟨arrC .u32 y430⟩ 165 (0, 0)) :: .blk b1 (.cells ⟨arrC .u32 (Vector.replicate 64 0 : Vector Int 64)⟩ 165 (0, 0)) :: F) w ∧ Fr 17 ([(0, .pointer (some ⟨b1, 0, none⟩)), (1, .pointer (some ⟨b4, 0, none⟩)), (2, rvv12), (3, .int .i64 y431)]) a) (fun _ => rfl) ?_ BIG ((Vector.replicate 64 0 : Vector Int 64), 0) _ _ ⟨hw, hf.to ⟨rfl, rfl, rfl, rfl, trivial⟩⟩ hp
  intro k st a w hI hp ih
  obtain ⟨y430, y431⟩ := st
  obtain ⟨hw, hf⟩ := hI
  rw [ref04_Constants.l0] at hp
  refine wq <| wq <| wr <| om hf rfl rfl fun a hf => oR hf (iC hf rfl rfl rfl) rfl fun a hf => oN <| ct <| cC hf rfl (fun hb446 => ?_) (fun hb446 => ?_)
  ·replace hp := cond_t hb446 hp
   refine wp_skip <| ct <| wq <| wp_block <| wr <| om hf rfl rfl fun a hf => om hf rfl rfl fun a hf => om hf rfl rfl fun a hf => ?_
   obtain ⟨hg447, hp⟩ := gS hp
   refine oR hf (rI (K := (ekI .u64)) hf el_212 rfl rfl (hR13.rd hw) hg447) rfl fun a hf => oR hf (r_loadH (K := (ekI .u64)) hf rfl ty_215 (hR13.rd hw) hg447 rfl (fun cs h => ekI_f0 h)) rfl fun a hf => ?_
   obtain ⟨y448, hy449, hp⟩ := bS hp
   have hc451 := ref04_cube_ok hw hG hy449
   refine o_call hf cb_110 rfl rfl hc451 (fun v453 w a hK452 hf => ?_)
   obtain ⟨rfl, hw⟩ := hK452
   obtain ⟨hg454, hp⟩ := gS hp
   refine oR hf (r_indexAddrA hf el_165 rfl rfl hg454) rfl fun a hf => ?_
   obtain ⟨w, hrun455, hw⟩ := e_store (P := P) hw hf (x := .tmp 15) (y := .tmp 14) rfl rfl ty_109 0 rfl (vs := [.int .u32 y448]) rfl rfl (oC rfl ones_nil) (by first | (simp [arrC_len] <;> omega) | (have h := hg454; try (simp only [w64, wu8, wu16, wu32, wu64] at h); simp only [List.length_cons, arrC_len]; omega)) (cs' := (arrC .u32 (vset y430 y431 y448))) (arr_store (pre := ([] : List Value)) (v := y430) rfl rfl rfl hg454)
   replace hw : Ok E I2_11 (.blk b4 (.cells ⟨arrC .u32 (vset y430 y431 y448)⟩ 165 (0, 0)) :: .blk b1 (.cells ⟨arrC .u32 (Vector.replicate 64 0 : Vector Int 64)⟩ 165 (0, 0)) :: F) w := hw
   refine o_effU (hrun455 ..) <| oN <| c_blockN <| ct <| wr <| om hf rfl rfl fun a hf => oR hf (r_add hf rfl rfl) rfl fun a hf => oa hf rfl rfl fun a hf => oN <| ct ?_
   exact ih (vset y430 y431 y448, w64 (y431 + 1)) _ _ ⟨hw, hf.to ⟨rfl, rfl, rfl, rfl, trivial⟩⟩ hp
  ·replace hp := cond_f hb446 hp
   refine wp_exit <| c_thenE <| c_thenE <| c_exit <| ct ?_
   have ho := oI hp
   subst ho
   exact ⟨y430, rfl, hw, hf.to ⟨rfl, rfl, trivial⟩⟩
 ·intro a w hM
  obtain ⟨y442, rfl, hw, hf⟩ := hM
  replace hp := hq444
  refine ct <| wq <| wr <| oR hf (r_loadA hw hf rfl ty_165 0 rfl (vs := (arrC .u32 y442)) (take_all (by simp [arrC_len])) (by simp [arrC_len])) rfl fun a hf => ?_
  obtain ⟨w, hrun457, hw⟩ := e_store (P := P) hw hf (x := .tmp 0) (y := .tmp 16) rfl rfl ty_165 1 rfl (vs := (arrC .u32 y442)) rfl (by simp [arrC_len]) (arrC_one _ _) (by simp [arrC_len]) (cs' := (arrC .u32 y442)) (by simp [arrC_len])
  replace hw : Ok E I2_11 (.blk b4 (.cells ⟨arrC .u32 y442⟩ 165 (0, 0)) :: .blk b1 (.cells ⟨arrC .u32 y442⟩ 165 (0, 0)) :: F) w := hw
  refine o_effU (hrun457 ..) <| oN <| ct <| wp_ret ?_
  replace hw : Ok E I2_11 (.blk b1 (.cells ⟨arrC .u32 y442⟩ 165 (0, 0)) :: F) w := hw.sub (sc (scc sr))
  have ho := oI hp
  subst ho
  exact b_retC hw hf results74 ty_165 rfl 0 rfl (vs := (arrC .u32 y442)) (take_all (by simp [arrC_len])) (by simp [arrC_len]) ⟨_, rfl, ⟨rfl, (hw.tail.back hle15 sr)⟩⟩

theorem ref02_Good_ok {E : World} {I : IH} {F : List Atom} {w : World} {a0 : ByteArray} {res0 : Bool} (hw : Ok E I (F) w) (hG : Gl I) (hp : ref02_Good.f a0 = some res0) :
  Calls P 131 ⟨[Value.string a0]⟩ w fun e w' => ∃ v, e = .returned v ∧ v = Value.bool res0 ∧ Ok E I (F) w' := by
 refine c_enter func131 rfl ntmps131 rfl fun a hf => ?_
 replace hf : Fr 17 [(0, .string a0)] a := hf
 unfold ref02_Good.f at hp
 refine wq <| wr <| oa hf rfl rfl fun a hf => oN <| ct <| wq <| wq <| wr <| oa hf rfl rfl fun a hf => oN <| ct ?_
 obtain ⟨out12, hp, hq13⟩ := bS hp
 refine c_cutX (fun a w => (.inl ()) = out12 ∧ Ok E I (F) w ∧ Fr 17 ([(0, .string a0)]) a) ?_ ?_
 ·refine wp_block <| c_loop <| c_fuel (ref02_Good.l0 a0) out12 (fun (y8 : Int) a w => Ok E I (F) w ∧ Fr 17 ([(0, .string a0), (3, .int .i64 y8)]) a) (fun _ => rfl) ?_ BIG 0 _ _ ⟨hw, hf.to ⟨rfl, rfl, trivial⟩⟩ hp
  intro k y8 a w hI hp ih
  obtain ⟨hw, hf⟩ := hI
  rw [ref02_Good.l0] at hp
  refine wq <| wq <| wr <| om hf rfl rfl fun a hf => om hf rfl rfl fun a hf => oR hf (r_lenS hf und_9 rfl) rfl fun a hf => oR hf (iC hf rfl rfl rfl) rfl fun a hf => oN <| ct <| cC hf rfl (fun hb15 => ?_) (fun hb15 => ?_)
  ·replace hp := cond_t hb15 hp
   refine wp_skip <| ct <| wq <| wp_block <| wq <| wr <| om hf rfl rfl fun a hf => om hf rfl rfl fun a hf => ?_
   obtain ⟨hg16, hp⟩ := gS hp
   refine oR hf (r_indexS hf und_9 rfl rfl hg16) rfl fun a hf => oR hf (iC hf rfl rfl rfl) rfl fun a hf => oN <| ct <| cC hf rfl (fun hb17 => ?_) (fun hb17 => ?_)
   ·replace hp := cond_t hb17 hp
    refine wq <| wr <| oa hf rfl rfl fun a hf => oN <| ct <| wp_ret <| c_blockR <| c_thenR <| c_thenR <| c_blockR <| c_thenR ?_
    have ho := oI hp
    subst ho
    replace hp := hq13
    refine c_thenR ?_
    have ho := oI hp
    subst ho
    exact b_ret1 hf results131 rfl ⟨_, rfl, ⟨rfl, hw⟩⟩
   ·replace hp := cond_f hb17 hp
    refine wp_skip <| c_blockN <| ct <| wr <| om hf rfl rfl fun a hf => oR hf (r_add hf rfl rfl) rfl fun a hf => oa hf rfl rfl fun a hf => oN <| ct ?_
    exact ih (w64 (y8 + 1)) _ _ ⟨hw, hf.to ⟨rfl, rfl, trivial⟩⟩ hp
  ·replace hp := cond_f hb15 hp
   refine wp_exit <| c_thenE <| c_thenE <| c_exit <| ct ?_
   have ho := oI hp
   subst ho
   exact ⟨rfl, hw, hf.to ⟨rfl, trivial⟩⟩
 ·intro a w hM
  obtain ⟨rfl, hw, hf⟩ := hM
  replace hp := hq13
  refine ct <| wq <| wr <| om hf rfl rfl fun a hf => oR hf (r_lenS hf und_9 rfl) rfl fun a hf => oR hf (iC hf rfl rfl rfl) rfl fun a hf => oa hf rfl rfl fun a hf => oN <| ct <| wp_ret ?_
  have ho := oI hp
  subst ho
  exact b_ret1 hf results131 rfl ⟨_, rfl, ⟨rfl, hw⟩⟩

theorem ref09_Bits_ok {E : World} {I : IH} {F : List Atom} {w : World} {a0 : Int} {res0 : Int} (hw : Ok E I (F) w) (hG : Gl I) (hp : ref09_Bits.f a0 = some res0) :
  Calls P 132 ⟨[Value.int .i64 a0]⟩ w fun e w' => ∃ v, e = .returned v ∧ v = Value.int .i64 res0 ∧ Ok E I (F) w' := by
 refine c_enter func132 rfl ntmps132 rfl fun a hf => ?_
 replace hf : Fr 17 [(0, .int .i64 a0)] a := hf
 unfold ref09_Bits.f at hp
 refine wq <| wr <| oa hf rfl rfl fun a hf => oN <| ct <| wq <| wr <| oa hf rfl rfl fun a hf => oN <| ct <| wq <| wq <| wr <| oa hf rfl rfl fun a hf => oN <| ct ?_
 obtain ⟨out12, hp, hq13⟩ := bS hp
 refine c_cutX (fun a w => ∃ y11 : Int, y11 = out12 ∧ Ok E I (F) w ∧ Fr 17 ([(3, .int .i64 y11)]) a) ?_ ?_
 ·refine wp_block <| c_loop <| c_fuel (ref09_Bits.l0 a0) out12 (fun (y7, y8) a w => Ok E I (F) w ∧ Fr 17 ([(0, .int .i64 a0), (3, .int .i64 y7), (4, .int .i64 y8)]) a) (fun _ => rfl) ?_ BIG (0, 0) _ _ ⟨hw, hf.to ⟨rfl, rfl, rfl, trivial⟩⟩ hp
  intro k st a w hI hp ih
  obtain ⟨y7, y8⟩ := st
  obtain ⟨hw, hf⟩ := hI
  rw [ref09_Bits.l0] at hp
  refine wq <| wq <| wr <| om hf rfl rfl fun a hf => oR hf (iC hf rfl rfl rfl) rfl fun a hf => oN <| ct <| cC hf rfl (fun hb15 => ?_) (fun hb15 => ?_)
  ·replace hp := cond_t hb15 hp
   refine wp_skip <| ct <| wq <| wp_block <| wr <| om hf rfl rfl fun a hf => om hf rfl rfl fun a hf => om hf rfl rfl fun a hf => oR hf (r_convI hf und_3 und_160 rfl) rfl fun a hf => ?_
   obtain ⟨hg16, hp⟩ := gS hp
   refine oR hf (r_shr hf rfl rfl hg16) rfl fun a hf => oR hf (r_and hf rfl rfl) rfl fun a hf => oR hf (r_add hf rfl rfl) rfl fun a hf => oa hf rfl rfl fun a hf => oN <| c_blockN <| ct <| wr <| om hf rfl rfl fun a hf => oR hf (r_add hf rfl rfl) rfl fun a hf => oa hf rfl rfl fun a hf => oN <| ct ?_
   exact ih (w64 (y7 + (band .i64 (shr .i64 a0 (wu64 y8)) 1)), w64 (y8 + 1)) _ _ ⟨hw, hf.to ⟨rfl, rfl, rfl, trivial⟩⟩ hp
  ·replace hp := cond_f hb15 hp
   refine wp_exit <| c_thenE <| c_thenE <| c_exit <| ct ?_
   have ho := oI hp
   subst ho
   exact ⟨y7, rfl, hw, hf.to ⟨rfl, trivial⟩⟩
 ·intro a w hM
  obtain ⟨y11, rfl, hw, hf⟩ := hM
  replace hp := hq13
  refine ct <| wq <| wr <| om hf rfl rfl fun a hf => oa hf rfl rfl fun a hf => oN <| ct <| wp_ret ?_
  have ho := oI hp
  subst ho
  exact b_ret1 hf results132 rfl ⟨_, rfl, ⟨rfl, hw⟩⟩
end Go.Lf
