/- The Go functions compute the plain Lean functions (printed by our lift.py). -/
import Derived.Test.YtckhmgglgbnaaaaDoorZD
import Derived.Test.YtckhmgglgbnaaaaDoorZF
import Derived.Test.YtckhmgglgbnaaaaDoorJ
import Derived.Test.YtckhmgglgbnaaaaDoorZK1
import Derived.Test.YtckhmgglgbnaaaaDoorZK8
import Derived.Test.YtckhmgglgbnaaaaDoorZK9
set_option linter.unusedVariables false
set_option linter.unusedSimpArgs false
namespace Go.Lf
open Go
set_option maxHeartbeats 1000000 in
set_option maxRecDepth 20000 in
theorem law11_wakes_ok {E : World} {I : IH} {F : List Atom} {w : World} {res0 : Bool} (hw : Ok E I (F) w) (hG : Gl I) (hp : law11_wakes.f = some res0) :
    Calls P 13 ⟨[]⟩ w fun e w' => ∃ v, e = .returned v ∧ v = Value.bool res0 ∧ Ok E I (F) w' := by
  refine c_enter Go.Proofs.Tryd.func13 rfl Go.Proofs.Tryd.ntmps13 rfl fun a hf => ?_
  replace hf : Fr 81 [] a := hf
  unfold law11_wakes.f at hp
  refine wp_seq ?_
  refine wp_region_lit ?_
  refine o_run hf (r_assign hf rfl) rfl fun a hf => ?_
  refine o_nil ?_
  refine c_then ?_
  refine wp_seq ?_
  refine wp_region_lit ?_
  refine o_run hf (r_build hf bd_58 (vs := [Value.string (⟨#[97]⟩ : ByteArray), Value.string (⟨#[118]⟩ : ByteArray)]) rfl ⟨rfl, rfl, trivial⟩ (by decide) (out := [Value.string (⟨#[97]⟩ : ByteArray), Value.string (⟨#[118]⟩ : ByteArray)]) rfl) rfl fun a hf => ?_
  obtain ⟨w, v1, hrun2, hw, hRR3⟩ := e_buildSlice (P := P) (K := ek_Pair) (m := 1) hw hf (parts := [(0, .tmp 12)]) el_45 ty_58 rfl rfl rfl (ccs := [[Value.string (⟨#[97]⟩ : ByteArray), Value.string (⟨#[118]⟩ : ByteArray)]]) rfl (xs := [(⟨(⟨#[97]⟩ : ByteArray), (⟨#[118]⟩ : ByteArray)⟩ : Pair)]) ⟨rfl, trivial⟩ rfl
  obtain ⟨cs4, hcs⟩ : ∃ cs, cs = ([[Value.string (⟨#[97]⟩ : ByteArray), Value.string (⟨#[118]⟩ : ByteArray)]] : List (List Value)).flatten := ⟨_, rfl⟩
  rw [← hcs] at hw hRR3; clear hcs
  refine o_eff hf (hrun2 ..) rfl fun a hf => ?_
  have hw : Ok E I (.row v1 58 2 1 cs4 :: F) w := hw.front (i := 0) rfl
  obtain ⟨I1101, hle1102, hw, hR1103⟩ := row_freeze (K := ek_Pair) hw hRR3
  replace hG := hG.mono hle1102
  obtain ⟨y1104, hy1105, hp⟩ := bind_some hp
  have hc1107 := ref10_Build_ok hw hG hR1103 hy1105
  refine o_call hf cb_26 rfl rfl hc1107 (fun v1113 w a hK1108 hf => ?_)
  obtain ⟨I2_1108, rvv1109, rvv1111, rfl, hle1114, hw, hR1110, hR1112⟩ := hK1108
  replace hG := hG.mono hle1114
  replace hR1103 := hR1103.mono hle1114
  refine o_run hf (r_field hf rfl fd_48_0 ty_23 rfl) rfl fun a hf => ?_
  refine o_run hf (r_assign hf rfl) rfl fun a hf => ?_
  refine o_nil ?_
  refine c_then ?_
  refine wp_seq ?_
  refine wp_region_lit ?_
  refine o_run hf (r_move hf rfl) rfl fun a hf => ?_
  obtain ⟨y17, hy16, hp⟩ := bind_some hp
  obtain ⟨y14, y15⟩ := y17
  have hc18 := root_Of_ok hw hG hR1110 hy16
  refine o_call hf cb_14 rfl rfl hc18 (fun v20 w a hK19 hf => ?_)
  obtain ⟨rfl, hw⟩ := hK19
  refine o_run hf (r_move hf rfl) rfl fun a hf => ?_
  refine o_run hf (r_extract hf rfl rfl) rfl fun a hf => ?_
  refine o_run hf (r_extract hf rfl rfl) rfl fun a hf => ?_
  refine o_run hf (r_assign hf rfl) rfl fun a hf => ?_
  refine o_run hf (r_assign hf rfl) rfl fun a hf => ?_
  refine o_nil ?_
  refine c_then ?_
  refine wp_seq ?_
  refine wp_region_lit ?_
  obtain ⟨y24, hy23, hp⟩ := bind_some hp
  obtain ⟨y21, y22⟩ := y24
  have hc25 := root_Of_ok hw hG (RS.nil (K := ek_Node)) hy23
  refine o_call hf cb_14 rfl rfl hc25 (fun v27 w a hK26 hf => ?_)
  obtain ⟨rfl, hw⟩ := hK26
  refine o_run hf (r_move hf rfl) rfl fun a hf => ?_
  refine o_run hf (r_extract hf rfl rfl) rfl fun a hf => ?_
  refine o_run hf (r_extract hf rfl rfl) rfl fun a hf => ?_
  refine o_run hf (r_assign hf rfl) rfl fun a hf => ?_
  refine o_run hf (r_assign hf rfl) rfl fun a hf => ?_
  refine o_nil ?_
  refine c_then ?_
  refine wp_seq ?_
  refine wp_region_lit ?_
  refine o_run hf (r_build hf bd_55 (vs := [Value.int .i64 9]) rfl ⟨rfl, trivial⟩ (by decide) (out := (Value.int .i64 9 :: Value.string (⟨#[]⟩ : ByteArray) :: Value.bool false :: Value.string (⟨#[]⟩ : ByteArray) :: arrC .i64 (Vector.replicate 16 0 : Vector Int 16))) rfl) rfl fun a hf => ?_
  obtain ⟨w, v28, hrun29, hw, hRR30⟩ := e_buildSlice (P := P) (K := ek_Node) (m := 1) hw hf (parts := [(0, .tmp 26)]) el_23 ty_55 rfl rfl rfl (ccs := [(Value.int .i64 9 :: Value.string (⟨#[]⟩ : ByteArray) :: Value.bool false :: Value.string (⟨#[]⟩ : ByteArray) :: arrC .i64 (Vector.replicate 16 0 : Vector Int 16))]) rfl (xs := [(⟨9, (⟨#[]⟩ : ByteArray), false, (⟨#[]⟩ : ByteArray), (Vector.replicate 16 0 : Vector Int 16)⟩ : Node)]) ⟨rfl, trivial⟩ rfl
  obtain ⟨cs31, hcs⟩ : ∃ cs, cs = ([(Value.int .i64 9 :: Value.string (⟨#[]⟩ : ByteArray) :: Value.bool false :: Value.string (⟨#[]⟩ : ByteArray) :: arrC .i64 (Vector.replicate 16 0 : Vector Int 16))] : List (List Value)).flatten := ⟨_, rfl⟩
  rw [← hcs] at hw hRR30; clear hcs
  refine o_eff hf (hrun29 ..) rfl fun a hf => ?_
  have hw : Ok E I2_1108 (.row v28 55 20 1 cs31 :: F) w := hw.front (i := 0) rfl
  obtain ⟨I33, hle34, hw, hR35⟩ := row_freeze (K := ek_Node) hw hRR30
  replace hG := hG.mono hle34
  replace hR1103 := hR1103.mono hle34
  replace hR1110 := hR1110.mono hle34
  replace hR1112 := hR1112.mono hle34
  obtain ⟨y39, hy38, hp⟩ := bind_some hp
  obtain ⟨y36, y37⟩ := y39
  have hc40 := root_Of_ok hw hG hR35 hy38
  refine o_call hf cb_14 rfl rfl hc40 (fun v42 w a hK41 hf => ?_)
  obtain ⟨rfl, hw⟩ := hK41
  refine o_run hf (r_move hf rfl) rfl fun a hf => ?_
  refine o_run hf (r_extract hf rfl rfl) rfl fun a hf => ?_
  refine o_run hf (r_extract hf rfl rfl) rfl fun a hf => ?_
  refine o_run hf (r_assign hf rfl) rfl fun a hf => ?_
  refine o_run hf (r_assign hf rfl) rfl fun a hf => ?_
  refine o_nil ?_
  refine c_then ?_
  refine wp_seq ?_
  refine wp_region_lit ?_
  refine o_run hf (r_move hf rfl) rfl fun a hf => ?_
  obtain ⟨y405, hy404, hp⟩ := bind_some hp
  obtain ⟨y402, y403⟩ := y405
  have hc406 := root_Item_ok hw hG hR1110 hy404
  refine o_call hf cb_16 rfl rfl hc406 (fun v410 w a hK407 hf => ?_)
  obtain ⟨I2_407, rvv408, rfl, hle411, hw, hR409⟩ := hK407
  replace hG := hG.mono hle411
  replace hR1103 := hR1103.mono hle411
  replace hR1110 := hR1110.mono hle411
  replace hR1112 := hR1112.mono hle411
  replace hR35 := hR35.mono hle411
  refine o_run hf (r_move hf rfl) rfl fun a hf => ?_
  refine o_run hf (r_extract hf rfl rfl) rfl fun a hf => ?_
  refine o_run hf (r_extract hf rfl rfl) rfl fun a hf => ?_
  obtain ⟨b412, w, hrun413, hw⟩ := e_alloc (P := P) (a := a) hw ty_32
  replace hw : Ok E I2_407 (.blk b412 (.cells ⟨[Value.int .i64 0, Value.string (⟨#[]⟩ : ByteArray), Value.bool false, Value.string (⟨#[]⟩ : ByteArray), Value.int .i64 0, Value.slice none 0 0]⟩ 32 (0, 0)) :: F) w := hw
  refine o_eff hf (hrun413 ..) rfl fun a hf => ?_
  obtain ⟨w, hrun415, hw⟩ := e_store (P := P) hw hf (x := .tmp 8) (y := .tmp 34) rfl rfl ty_32 0 rfl (vs := [Value.int .i64 y402.kind_, Value.string y402.path_, Value.bool y402.has_, Value.string y402.value_, Value.int .i64 y402.mask_, rvv408]) rfl rfl (ones_cons rfl (ones_cons rfl (ones_cons rfl (ones_cons rfl (ones_cons rfl (ones_cons hR409.one ones_nil)))))) (by simp [arrC_len]) (cs' := [Value.int .i64 y402.kind_, Value.string y402.path_, Value.bool y402.has_, Value.string y402.value_, Value.int .i64 y402.mask_, rvv408]) rfl
  replace hw : Ok E I2_407 (.blk b412 (.cells ⟨[Value.int .i64 y402.kind_, Value.string y402.path_, Value.bool y402.has_, Value.string y402.value_, Value.int .i64 y402.mask_, rvv408]⟩ 32 (0, 0)) :: F) w := hw
  refine o_effU (hrun415 ..) ?_
  refine o_run hf (r_assign hf rfl) rfl fun a hf => ?_
  refine o_nil ?_
  refine c_then ?_
  refine wp_seq ?_
  refine wp_region_lit ?_
  refine o_run hf (r_move hf rfl) rfl fun a hf => ?_
  obtain ⟨y419, hy418, hp⟩ := bind_some hp
  obtain ⟨y416, y417⟩ := y419
  have hc420 := root_Item_ok hw hG hR1110 hy418
  refine o_call hf cb_16 rfl rfl hc420 (fun v424 w a hK421 hf => ?_)
  obtain ⟨I2_421, rvv422, rfl, hle425, hw, hR423⟩ := hK421
  replace hG := hG.mono hle425
  replace hR1103 := hR1103.mono hle425
  replace hR1110 := hR1110.mono hle425
  replace hR1112 := hR1112.mono hle425
  replace hR35 := hR35.mono hle425
  replace hR409 := hR409.mono hle425
  refine o_run hf (r_move hf rfl) rfl fun a hf => ?_
  refine o_run hf (r_extract hf rfl rfl) rfl fun a hf => ?_
  refine o_run hf (r_extract hf rfl rfl) rfl fun a hf => ?_
  obtain ⟨b426, w, hrun427, hw⟩ := e_alloc (P := P) (a := a) hw ty_32
  replace hw : Ok E I2_421 (.blk b426 (.cells ⟨[Value.int .i64 0, Value.string (⟨#[]⟩ : ByteArray), Value.bool false, Value.string (⟨#[]⟩ : ByteArray), Value.int .i64 0, Value.slice none 0 0]⟩ 32 (0, 0)) :: .blk b412 (.cells ⟨[Value.int .i64 y402.kind_, Value.string y402.path_, Value.bool y402.has_, Value.string y402.value_, Value.int .i64 y402.mask_, rvv408]⟩ 32 (0, 0)) :: F) w := hw
  refine o_eff hf (hrun427 ..) rfl fun a hf => ?_
  obtain ⟨w, hrun429, hw⟩ := e_store (P := P) hw hf (x := .tmp 10) (y := .tmp 39) rfl rfl ty_32 0 rfl (vs := [Value.int .i64 y416.kind_, Value.string y416.path_, Value.bool y416.has_, Value.string y416.value_, Value.int .i64 y416.mask_, rvv422]) rfl rfl (ones_cons rfl (ones_cons rfl (ones_cons rfl (ones_cons rfl (ones_cons rfl (ones_cons hR423.one ones_nil)))))) (by simp [arrC_len]) (cs' := [Value.int .i64 y416.kind_, Value.string y416.path_, Value.bool y416.has_, Value.string y416.value_, Value.int .i64 y416.mask_, rvv422]) rfl
  replace hw : Ok E I2_421 (.blk b426 (.cells ⟨[Value.int .i64 y416.kind_, Value.string y416.path_, Value.bool y416.has_, Value.string y416.value_, Value.int .i64 y416.mask_, rvv422]⟩ 32 (0, 0)) :: .blk b412 (.cells ⟨[Value.int .i64 y402.kind_, Value.string y402.path_, Value.bool y402.has_, Value.string y402.value_, Value.int .i64 y402.mask_, rvv408]⟩ 32 (0, 0)) :: F) w := hw
  refine o_effU (hrun429 ..) ?_
  refine o_run hf (r_assign hf rfl) rfl fun a hf => ?_
  refine o_nil ?_
  refine c_then ?_
  obtain ⟨out485, hp, hq486⟩ := bind_some hp
  refine c_cut (fun a w => ∃ y484 : Bool, y484 = out485 ∧ Ok E I2_421 (.blk b426 (.cells ⟨[Value.int .i64 y416.kind_, Value.string y416.path_, Value.bool y416.has_, Value.string y416.value_, Value.int .i64 y416.mask_, rvv422]⟩ 32 (0, 0)) :: .blk b412 (.cells ⟨[Value.int .i64 y402.kind_, Value.string y402.path_, Value.bool y402.has_, Value.string y402.value_, Value.int .i64 y402.mask_, rvv408]⟩ 32 (0, 0)) :: F) w ∧ Fr 81 ([(0, Value.bool y484)]) a) ?_ ?_
  · refine wp_region_lit ?_
    refine o_run hf (r_move hf rfl) rfl fun a hf => ?_
    refine o_run hf (r_move hf rfl) rfl fun a hf => ?_
    refine g_split hf (g := 42) rfl (fun hb487 hf => ?_) (fun hb487 hf => ?_)
    · replace hp := cond_t hb487 hp
      refine o_want hf (g := 42) rfl rfl ?_
      refine o_run hf (r_move hf rfl) rfl fun a hf => ?_
      refine o_want hf (g := 42) rfl rfl ?_
      obtain ⟨y488, hy489, hp⟩ := bind_some hp
      have hc491 := digest_Of_ok hw hG hy489
      refine o_call hf cb_31 rfl rfl hc491 (fun v493 w a hK492 hf => ?_)
      obtain ⟨rfl, hw⟩ := hK492
      refine o_want hf (g := 42) rfl rfl ?_
      refine o_run hf (r_scmp hf rfl rfl rfl) rfl fun a hf => ?_
      refine o_run hf (r_pickT hf rfl rfl) rfl fun a hf => ?_
      refine o_run hf (r_move hf rfl) rfl fun a hf => ?_
      refine g_split hf (g := 47) rfl (fun hb494 hf => ?_) (fun hb494 hf => ?_)
      · replace hp := cond_t hb494 hp
        refine o_want hf (g := 47) rfl rfl ?_
        refine o_run hf (r_move hf rfl) rfl fun a hf => ?_
        refine o_run hf (r_pickT hf rfl rfl) rfl fun a hf => ?_
        refine o_run hf (r_move hf rfl) rfl fun a hf => ?_
        refine g_split hf (g := 50) rfl (fun hb495 hf => ?_) (fun hb495 hf => ?_)
        · replace hp := cond_t hb495 hp
          refine o_want hf (g := 50) rfl rfl ?_
          refine o_run hf (r_move hf rfl) rfl fun a hf => ?_
          refine o_want hf (g := 50) rfl rfl ?_
          obtain ⟨y496, hy497, hp⟩ := bind_some hp
          have hc499 := root_Empty_ok hw hG hy497
          refine o_call hf cb_21 rfl rfl hc499 (fun v501 w a hK500 hf => ?_)
          obtain ⟨rfl, hw⟩ := hK500
          refine o_want hf (g := 50) rfl rfl ?_
          refine o_run hf (r_scmp hf rfl rfl rfl) rfl fun a hf => ?_
          refine o_run hf (r_pickT hf rfl rfl) rfl fun a hf => ?_
          refine o_run hf (r_move hf rfl) rfl fun a hf => ?_
          refine g_split hf (g := 55) rfl (fun hb502 hf => ?_) (fun hb502 hf => ?_)
          · replace hp := cond_t hb502 hp
            refine o_want hf (g := 55) rfl rfl ?_
            refine o_run hf (r_move hf rfl) rfl fun a hf => ?_
            refine o_want hf (g := 55) rfl rfl ?_
            obtain ⟨y503, hy504, hp⟩ := bind_some hp
            have hc506 := digest_Of_ok hw hG hy504
            refine o_call hf cb_31 rfl rfl hc506 (fun v508 w a hK507 hf => ?_)
            obtain ⟨rfl, hw⟩ := hK507
            refine o_want hf (g := 55) rfl rfl ?_
            refine o_run hf (r_scmp hf rfl rfl rfl) rfl fun a hf => ?_
            refine o_run hf (r_pickT hf rfl rfl) rfl fun a hf => ?_
            refine o_run hf (r_move hf rfl) rfl fun a hf => ?_
            refine g_split hf (g := 60) rfl (fun hb509 hf => ?_) (fun hb509 hf => ?_)
            · replace hp := cond_t hb509 hp
              refine o_want hf (g := 60) rfl rfl ?_
              refine o_run hf (r_move hf rfl) rfl fun a hf => ?_
              refine o_want hf (g := 60) rfl rfl ?_
              refine o_run hf (r_not hf rfl) rfl fun a hf => ?_
              refine o_run hf (r_pickT hf rfl rfl) rfl fun a hf => ?_
              refine o_run hf (r_move hf rfl) rfl fun a hf => ?_
              refine g_split hf (g := 64) rfl (fun hb510 hf => ?_) (fun hb510 hf => ?_)
              · replace hp := cond_t hb510 hp
                refine o_want hf (g := 64) rfl rfl ?_
                refine o_run hf (r_move hf rfl) rfl fun a hf => ?_
                refine o_run hf (r_pickT hf rfl rfl) rfl fun a hf => ?_
                refine o_run hf (r_move hf rfl) rfl fun a hf => ?_
                refine g_split hf (g := 67) rfl (fun hb511 hf => ?_) (fun hb511 hf => ?_)
                · replace hp := cond_t hb511 hp
                  refine o_want hf (g := 67) rfl rfl ?_
                  refine o_run hf (r_fieldAddr hf rfl fd_32_1) rfl fun a hf => ?_
                  refine o_want hf (g := 67) rfl rfl ?_
                  refine o_run hf (r_load hw hf rfl ty_9 1 rfl rfl) rfl fun a hf => ?_
                  refine o_want hf (g := 67) rfl rfl ?_
                  refine o_run hf (r_scmp hf rfl rfl rfl) rfl fun a hf => ?_
                  refine o_run hf (r_pickT hf rfl rfl) rfl fun a hf => ?_
                  refine o_run hf (r_move hf rfl) rfl fun a hf => ?_
                  refine g_split hf (g := 72) rfl (fun hb512 hf => ?_) (fun hb512 hf => ?_)
                  · replace hp := cond_t hb512 hp
                    refine o_want hf (g := 72) rfl rfl ?_
                    refine o_run hf (r_fieldAddr hf rfl fd_32_3) rfl fun a hf => ?_
                    refine o_want hf (g := 72) rfl rfl ?_
                    refine o_run hf (r_load hw hf rfl ty_9 1 rfl rfl) rfl fun a hf => ?_
                    refine o_want hf (g := 72) rfl rfl ?_
                    refine o_run hf (r_scmp hf rfl rfl rfl) rfl fun a hf => ?_
                    refine o_run hf (r_pickT hf rfl rfl) rfl fun a hf => ?_
                    refine o_run hf (r_move hf rfl) rfl fun a hf => ?_
                    refine g_split hf (g := 77) rfl (fun hb513 hf => ?_) (fun hb513 hf => ?_)
                    · replace hp := cond_t hb513 hp
                      refine o_want hf (g := 77) rfl rfl ?_
                      refine o_run hf (r_move hf rfl) rfl fun a hf => ?_
                      refine o_want hf (g := 77) rfl rfl ?_
                      refine o_run hf (r_not hf rfl) rfl fun a hf => ?_
                      refine o_run hf (r_pickT hf rfl rfl) rfl fun a hf => ?_
                      refine o_run hf (r_assign hf rfl) rfl fun a hf => ?_
                      refine o_nil ?_
                      refine c_then ?_
                      have ho := out_inj hp
                      subst ho
                      exact ⟨(!y417), rfl, hw, hf.to ⟨rfl, trivial⟩⟩
                    · replace hp := cond_f hb513 hp
                      refine o_skip hf (g := 77) rfl rfl rfl rfl rfl rfl fun a hf => ?_
                      refine o_skip hf (g := 77) rfl rfl rfl rfl rfl rfl fun a hf => ?_
                      refine o_run hf (r_pickF hf rfl rfl) rfl fun a hf => ?_
                      refine o_run hf (r_assign hf rfl) rfl fun a hf => ?_
                      refine o_nil ?_
                      refine c_then ?_
                      have ho := out_inj hp
                      subst ho
                      exact ⟨false, rfl, hw, hf.to ⟨rfl, trivial⟩⟩
                  · replace hp := cond_f hb512 hp
                    refine o_skip hf (g := 72) rfl rfl rfl rfl rfl rfl fun a hf => ?_
                    refine o_skip hf (g := 72) rfl rfl rfl rfl rfl rfl fun a hf => ?_
                    refine o_skip hf (g := 72) rfl rfl rfl rfl rfl rfl fun a hf => ?_
                    refine o_run hf (r_pickF hf rfl rfl) rfl fun a hf => ?_
                    refine o_run hf (r_move hf rfl) rfl fun a hf => ?_
                    refine o_skip hf (g := 77) rfl rfl rfl rfl rfl rfl fun a hf => ?_
                    refine o_skip hf (g := 77) rfl rfl rfl rfl rfl rfl fun a hf => ?_
                    refine o_run hf (r_pickF hf rfl rfl) rfl fun a hf => ?_
                    refine o_run hf (r_assign hf rfl) rfl fun a hf => ?_
                    refine o_nil ?_
                    refine c_then ?_
                    have ho := out_inj hp
                    subst ho
                    exact ⟨false, rfl, hw, hf.to ⟨rfl, trivial⟩⟩
                · replace hp := cond_f hb511 hp
                  refine o_skip hf (g := 67) rfl rfl rfl rfl rfl rfl fun a hf => ?_
                  refine o_skip hf (g := 67) rfl rfl rfl rfl rfl rfl fun a hf => ?_
                  refine o_skip hf (g := 67) rfl rfl rfl rfl rfl rfl fun a hf => ?_
                  refine o_run hf (r_pickF hf rfl rfl) rfl fun a hf => ?_
                  refine o_run hf (r_move hf rfl) rfl fun a hf => ?_
                  refine o_skip hf (g := 72) rfl rfl rfl rfl rfl rfl fun a hf => ?_
                  refine o_skip hf (g := 72) rfl rfl rfl rfl rfl rfl fun a hf => ?_
                  refine o_skip hf (g := 72) rfl rfl rfl rfl rfl rfl fun a hf => ?_
                  refine o_run hf (r_pickF hf rfl rfl) rfl fun a hf => ?_
                  refine o_run hf (r_move hf rfl) rfl fun a hf => ?_
                  refine o_skip hf (g := 77) rfl rfl rfl rfl rfl rfl fun a hf => ?_
                  refine o_skip hf (g := 77) rfl rfl rfl rfl rfl rfl fun a hf => ?_
                  refine o_run hf (r_pickF hf rfl rfl) rfl fun a hf => ?_
                  refine o_run hf (r_assign hf rfl) rfl fun a hf => ?_
                  refine o_nil ?_
                  refine c_then ?_
                  have ho := out_inj hp
                  subst ho
                  exact ⟨false, rfl, hw, hf.to ⟨rfl, trivial⟩⟩
              · replace hp := cond_f hb510 hp
                refine o_skip hf (g := 64) rfl rfl rfl rfl rfl rfl fun a hf => ?_
                refine o_run hf (r_pickF hf rfl rfl) rfl fun a hf => ?_
                refine o_run hf (r_move hf rfl) rfl fun a hf => ?_
                refine o_skip hf (g := 67) rfl rfl rfl rfl rfl rfl fun a hf => ?_
                refine o_skip hf (g := 67) rfl rfl rfl rfl rfl rfl fun a hf => ?_
                refine o_skip hf (g := 67) rfl rfl rfl rfl rfl rfl fun a hf => ?_
                refine o_run hf (r_pickF hf rfl rfl) rfl fun a hf => ?_
                refine o_run hf (r_move hf rfl) rfl fun a hf => ?_
                refine o_skip hf (g := 72) rfl rfl rfl rfl rfl rfl fun a hf => ?_
                refine o_skip hf (g := 72) rfl rfl rfl rfl rfl rfl fun a hf => ?_
                refine o_skip hf (g := 72) rfl rfl rfl rfl rfl rfl fun a hf => ?_
                refine o_run hf (r_pickF hf rfl rfl) rfl fun a hf => ?_
                refine o_run hf (r_move hf rfl) rfl fun a hf => ?_
                refine o_skip hf (g := 77) rfl rfl rfl rfl rfl rfl fun a hf => ?_
                refine o_skip hf (g := 77) rfl rfl rfl rfl rfl rfl fun a hf => ?_
                refine o_run hf (r_pickF hf rfl rfl) rfl fun a hf => ?_
                refine o_run hf (r_assign hf rfl) rfl fun a hf => ?_
                refine o_nil ?_
                refine c_then ?_
                have ho := out_inj hp
                subst ho
                exact ⟨false, rfl, hw, hf.to ⟨rfl, trivial⟩⟩
            · replace hp := cond_f hb509 hp
              refine o_skip hf (g := 60) rfl rfl rfl rfl rfl rfl fun a hf => ?_
              refine o_skip hf (g := 60) rfl rfl rfl rfl rfl rfl fun a hf => ?_
              refine o_run hf (r_pickF hf rfl rfl) rfl fun a hf => ?_
              refine o_run hf (r_move hf rfl) rfl fun a hf => ?_
              refine o_skip hf (g := 64) rfl rfl rfl rfl rfl rfl fun a hf => ?_
              refine o_run hf (r_pickF hf rfl rfl) rfl fun a hf => ?_
              refine o_run hf (r_move hf rfl) rfl fun a hf => ?_
              refine o_skip hf (g := 67) rfl rfl rfl rfl rfl rfl fun a hf => ?_
              refine o_skip hf (g := 67) rfl rfl rfl rfl rfl rfl fun a hf => ?_
              refine o_skip hf (g := 67) rfl rfl rfl rfl rfl rfl fun a hf => ?_
              refine o_run hf (r_pickF hf rfl rfl) rfl fun a hf => ?_
              refine o_run hf (r_move hf rfl) rfl fun a hf => ?_
              refine o_skip hf (g := 72) rfl rfl rfl rfl rfl rfl fun a hf => ?_
              refine o_skip hf (g := 72) rfl rfl rfl rfl rfl rfl fun a hf => ?_
              refine o_skip hf (g := 72) rfl rfl rfl rfl rfl rfl fun a hf => ?_
              refine o_run hf (r_pickF hf rfl rfl) rfl fun a hf => ?_
              refine o_run hf (r_move hf rfl) rfl fun a hf => ?_
              refine o_skip hf (g := 77) rfl rfl rfl rfl rfl rfl fun a hf => ?_
              refine o_skip hf (g := 77) rfl rfl rfl rfl rfl rfl fun a hf => ?_
              refine o_run hf (r_pickF hf rfl rfl) rfl fun a hf => ?_
              refine o_run hf (r_assign hf rfl) rfl fun a hf => ?_
              refine o_nil ?_
              refine c_then ?_
              have ho := out_inj hp
              subst ho
              exact ⟨false, rfl, hw, hf.to ⟨rfl, trivial⟩⟩
          · replace hp := cond_f hb502 hp
            refine o_skip hf (g := 55) rfl rfl rfl rfl rfl rfl fun a hf => ?_
            refine o_skip hf (g := 55) rfl rfl rfl rfl rfl rfl fun a hf => ?_
            refine o_skip hf (g := 55) rfl rfl rfl rfl rfl rfl fun a hf => ?_
            refine o_run hf (r_pickF hf rfl rfl) rfl fun a hf => ?_
            refine o_run hf (r_move hf rfl) rfl fun a hf => ?_
            refine o_skip hf (g := 60) rfl rfl rfl rfl rfl rfl fun a hf => ?_
            refine o_skip hf (g := 60) rfl rfl rfl rfl rfl rfl fun a hf => ?_
            refine o_run hf (r_pickF hf rfl rfl) rfl fun a hf => ?_
            refine o_run hf (r_move hf rfl) rfl fun a hf => ?_
            refine o_skip hf (g := 64) rfl rfl rfl rfl rfl rfl fun a hf => ?_
            refine o_run hf (r_pickF hf rfl rfl) rfl fun a hf => ?_
            refine o_run hf (r_move hf rfl) rfl fun a hf => ?_
            refine o_skip hf (g := 67) rfl rfl rfl rfl rfl rfl fun a hf => ?_
            refine o_skip hf (g := 67) rfl rfl rfl rfl rfl rfl fun a hf => ?_
            refine o_skip hf (g := 67) rfl rfl rfl rfl rfl rfl fun a hf => ?_
            refine o_run hf (r_pickF hf rfl rfl) rfl fun a hf => ?_
            refine o_run hf (r_move hf rfl) rfl fun a hf => ?_
            refine o_skip hf (g := 72) rfl rfl rfl rfl rfl rfl fun a hf => ?_
            refine o_skip hf (g := 72) rfl rfl rfl rfl rfl rfl fun a hf => ?_
            refine o_skip hf (g := 72) rfl rfl rfl rfl rfl rfl fun a hf => ?_
            refine o_run hf (r_pickF hf rfl rfl) rfl fun a hf => ?_
            refine o_run hf (r_move hf rfl) rfl fun a hf => ?_
            refine o_skip hf (g := 77) rfl rfl rfl rfl rfl rfl fun a hf => ?_
            refine o_skip hf (g := 77) rfl rfl rfl rfl rfl rfl fun a hf => ?_
            refine o_run hf (r_pickF hf rfl rfl) rfl fun a hf => ?_
            refine o_run hf (r_assign hf rfl) rfl fun a hf => ?_
            refine o_nil ?_
            refine c_then ?_
            have ho := out_inj hp
            subst ho
            exact ⟨false, rfl, hw, hf.to ⟨rfl, trivial⟩⟩
        · replace hp := cond_f hb495 hp
          refine o_skip hf (g := 50) rfl rfl rfl rfl rfl rfl fun a hf => ?_
          refine o_skip hf (g := 50) rfl rfl rfl rfl rfl rfl fun a hf => ?_
          refine o_skip hf (g := 50) rfl rfl rfl rfl rfl rfl fun a hf => ?_
          refine o_run hf (r_pickF hf rfl rfl) rfl fun a hf => ?_
          refine o_run hf (r_move hf rfl) rfl fun a hf => ?_
          refine o_skip hf (g := 55) rfl rfl rfl rfl rfl rfl fun a hf => ?_
          refine o_skip hf (g := 55) rfl rfl rfl rfl rfl rfl fun a hf => ?_
          refine o_skip hf (g := 55) rfl rfl rfl rfl rfl rfl fun a hf => ?_
          refine o_run hf (r_pickF hf rfl rfl) rfl fun a hf => ?_
          refine o_run hf (r_move hf rfl) rfl fun a hf => ?_
          refine o_skip hf (g := 60) rfl rfl rfl rfl rfl rfl fun a hf => ?_
          refine o_skip hf (g := 60) rfl rfl rfl rfl rfl rfl fun a hf => ?_
          refine o_run hf (r_pickF hf rfl rfl) rfl fun a hf => ?_
          refine o_run hf (r_move hf rfl) rfl fun a hf => ?_
          refine o_skip hf (g := 64) rfl rfl rfl rfl rfl rfl fun a hf => ?_
          refine o_run hf (r_pickF hf rfl rfl) rfl fun a hf => ?_
          refine o_run hf (r_move hf rfl) rfl fun a hf => ?_
          refine o_skip hf (g := 67) rfl rfl rfl rfl rfl rfl fun a hf => ?_
          refine o_skip hf (g := 67) rfl rfl rfl rfl rfl rfl fun a hf => ?_
          refine o_skip hf (g := 67) rfl rfl rfl rfl rfl rfl fun a hf => ?_
          refine o_run hf (r_pickF hf rfl rfl) rfl fun a hf => ?_
          refine o_run hf (r_move hf rfl) rfl fun a hf => ?_
          refine o_skip hf (g := 72) rfl rfl rfl rfl rfl rfl fun a hf => ?_
          refine o_skip hf (g := 72) rfl rfl rfl rfl rfl rfl fun a hf => ?_
          refine o_skip hf (g := 72) rfl rfl rfl rfl rfl rfl fun a hf => ?_
          refine o_run hf (r_pickF hf rfl rfl) rfl fun a hf => ?_
          refine o_run hf (r_move hf rfl) rfl fun a hf => ?_
          refine o_skip hf (g := 77) rfl rfl rfl rfl rfl rfl fun a hf => ?_
          refine o_skip hf (g := 77) rfl rfl rfl rfl rfl rfl fun a hf => ?_
          refine o_run hf (r_pickF hf rfl rfl) rfl fun a hf => ?_
          refine o_run hf (r_assign hf rfl) rfl fun a hf => ?_
          refine o_nil ?_
          refine c_then ?_
          have ho := out_inj hp
          subst ho
          exact ⟨false, rfl, hw, hf.to ⟨rfl, trivial⟩⟩
      · replace hp := cond_f hb494 hp
        refine o_skip hf (g := 47) rfl rfl rfl rfl rfl rfl fun a hf => ?_
        refine o_run hf (r_pickF hf rfl rfl) rfl fun a hf => ?_
        refine o_run hf (r_move hf rfl) rfl fun a hf => ?_
        refine o_skip hf (g := 50) rfl rfl rfl rfl rfl rfl fun a hf => ?_
        refine o_skip hf (g := 50) rfl rfl rfl rfl rfl rfl fun a hf => ?_
        refine o_skip hf (g := 50) rfl rfl rfl rfl rfl rfl fun a hf => ?_
        refine o_run hf (r_pickF hf rfl rfl) rfl fun a hf => ?_
        refine o_run hf (r_move hf rfl) rfl fun a hf => ?_
        refine o_skip hf (g := 55) rfl rfl rfl rfl rfl rfl fun a hf => ?_
        refine o_skip hf (g := 55) rfl rfl rfl rfl rfl rfl fun a hf => ?_
        refine o_skip hf (g := 55) rfl rfl rfl rfl rfl rfl fun a hf => ?_
        refine o_run hf (r_pickF hf rfl rfl) rfl fun a hf => ?_
        refine o_run hf (r_move hf rfl) rfl fun a hf => ?_
        refine o_skip hf (g := 60) rfl rfl rfl rfl rfl rfl fun a hf => ?_
        refine o_skip hf (g := 60) rfl rfl rfl rfl rfl rfl fun a hf => ?_
        refine o_run hf (r_pickF hf rfl rfl) rfl fun a hf => ?_
        refine o_run hf (r_move hf rfl) rfl fun a hf => ?_
        refine o_skip hf (g := 64) rfl rfl rfl rfl rfl rfl fun a hf => ?_
        refine o_run hf (r_pickF hf rfl rfl) rfl fun a hf => ?_
        refine o_run hf (r_move hf rfl) rfl fun a hf => ?_
        refine o_skip hf (g := 67) rfl rfl rfl rfl rfl rfl fun a hf => ?_
        refine o_skip hf (g := 67) rfl rfl rfl rfl rfl rfl fun a hf => ?_
        refine o_skip hf (g := 67) rfl rfl rfl rfl rfl rfl fun a hf => ?_
        refine o_run hf (r_pickF hf rfl rfl) rfl fun a hf => ?_
        refine o_run hf (r_move hf rfl) rfl fun a hf => ?_
        refine o_skip hf (g := 72) rfl rfl rfl rfl rfl rfl fun a hf => ?_
        refine o_skip hf (g := 72) rfl rfl rfl rfl rfl rfl fun a hf => ?_
        refine o_skip hf (g := 72) rfl rfl rfl rfl rfl rfl fun a hf => ?_
        refine o_run hf (r_pickF hf rfl rfl) rfl fun a hf => ?_
        refine o_run hf (r_move hf rfl) rfl fun a hf => ?_
        refine o_skip hf (g := 77) rfl rfl rfl rfl rfl rfl fun a hf => ?_
        refine o_skip hf (g := 77) rfl rfl rfl rfl rfl rfl fun a hf => ?_
        refine o_run hf (r_pickF hf rfl rfl) rfl fun a hf => ?_
        refine o_run hf (r_assign hf rfl) rfl fun a hf => ?_
        refine o_nil ?_
        refine c_then ?_
        have ho := out_inj hp
        subst ho
        exact ⟨false, rfl, hw, hf.to ⟨rfl, trivial⟩⟩
    · replace hp := cond_f hb487 hp
      refine o_skip hf (g := 42) rfl rfl rfl rfl rfl rfl fun a hf => ?_
      refine o_skip hf (g := 42) rfl rfl rfl rfl rfl rfl fun a hf => ?_
      refine o_skip hf (g := 42) rfl rfl rfl rfl rfl rfl fun a hf => ?_
      refine o_run hf (r_pickF hf rfl rfl) rfl fun a hf => ?_
      refine o_run hf (r_move hf rfl) rfl fun a hf => ?_
      refine o_skip hf (g := 47) rfl rfl rfl rfl rfl rfl fun a hf => ?_
      refine o_run hf (r_pickF hf rfl rfl) rfl fun a hf => ?_
      refine o_run hf (r_move hf rfl) rfl fun a hf => ?_
      refine o_skip hf (g := 50) rfl rfl rfl rfl rfl rfl fun a hf => ?_
      refine o_skip hf (g := 50) rfl rfl rfl rfl rfl rfl fun a hf => ?_
      refine o_skip hf (g := 50) rfl rfl rfl rfl rfl rfl fun a hf => ?_
      refine o_run hf (r_pickF hf rfl rfl) rfl fun a hf => ?_
      refine o_run hf (r_move hf rfl) rfl fun a hf => ?_
      refine o_skip hf (g := 55) rfl rfl rfl rfl rfl rfl fun a hf => ?_
      refine o_skip hf (g := 55) rfl rfl rfl rfl rfl rfl fun a hf => ?_
      refine o_skip hf (g := 55) rfl rfl rfl rfl rfl rfl fun a hf => ?_
      refine o_run hf (r_pickF hf rfl rfl) rfl fun a hf => ?_
      refine o_run hf (r_move hf rfl) rfl fun a hf => ?_
      refine o_skip hf (g := 60) rfl rfl rfl rfl rfl rfl fun a hf => ?_
      refine o_skip hf (g := 60) rfl rfl rfl rfl rfl rfl fun a hf => ?_
      refine o_run hf (r_pickF hf rfl rfl) rfl fun a hf => ?_
      refine o_run hf (r_move hf rfl) rfl fun a hf => ?_
      refine o_skip hf (g := 64) rfl rfl rfl rfl rfl rfl fun a hf => ?_
      refine o_run hf (r_pickF hf rfl rfl) rfl fun a hf => ?_
      refine o_run hf (r_move hf rfl) rfl fun a hf => ?_
      refine o_skip hf (g := 67) rfl rfl rfl rfl rfl rfl fun a hf => ?_
      refine o_skip hf (g := 67) rfl rfl rfl rfl rfl rfl fun a hf => ?_
      refine o_skip hf (g := 67) rfl rfl rfl rfl rfl rfl fun a hf => ?_
      refine o_run hf (r_pickF hf rfl rfl) rfl fun a hf => ?_
      refine o_run hf (r_move hf rfl) rfl fun a hf => ?_
      refine o_skip hf (g := 72) rfl rfl rfl rfl rfl rfl fun a hf => ?_
      refine o_skip hf (g := 72) rfl rfl rfl rfl rfl rfl fun a hf => ?_
      refine o_skip hf (g := 72) rfl rfl rfl rfl rfl rfl fun a hf => ?_
      refine o_run hf (r_pickF hf rfl rfl) rfl fun a hf => ?_
      refine o_run hf (r_move hf rfl) rfl fun a hf => ?_
      refine o_skip hf (g := 77) rfl rfl rfl rfl rfl rfl fun a hf => ?_
      refine o_skip hf (g := 77) rfl rfl rfl rfl rfl rfl fun a hf => ?_
      refine o_run hf (r_pickF hf rfl rfl) rfl fun a hf => ?_
      refine o_run hf (r_assign hf rfl) rfl fun a hf => ?_
      refine o_nil ?_
      refine c_then ?_
      have ho := out_inj hp
      subst ho
      exact ⟨false, rfl, hw, hf.to ⟨rfl, trivial⟩⟩
  · intro a w hM
    obtain ⟨y484, rfl, hw, hf⟩ := hM
    replace hp := hq486
    refine wp_ret ?_
    replace hw : Ok E I2_421 (F) w := hw.sub (List.Sublist.cons _ (List.Sublist.cons _ (List.Sublist.refl _)))
    have ho := out_inj hp
    subst ho
    exact b_ret1 hf Go.Proofs.Tryd.results13 rfl ⟨_, rfl, ⟨rfl, (hw.back (IH.le_trans (IH.le_trans (IH.le_trans (IH.le_trans hle1102 hle1114) hle34) hle411) hle425) (List.Sublist.refl _))⟩⟩

set_option maxHeartbeats 1000000 in
set_option maxRecDepth 20000 in
theorem keep_Pairs_ok {E : World} {I : IH} {F : List Atom} {w : World} {a0 : List Pair} {a0v711 : Value} {a1 : List Pair} {a1v713 : Value} {res0 : Bool} (hw : Ok E I (F) w) (hG : Gl I) (hR712 : RS ek_Pair I a0v711 a0) (hR714 : RS ek_Pair I a1v713 a1) (hp : keep_Pairs.f a0 a1 = some res0) :
    Calls P 27 ⟨[a0v711, a1v713]⟩ w fun e w' => ∃ v, e = .returned v ∧ v = Value.bool res0 ∧ Ok E I (F) w' := by
  refine c_enter Go.Proofs.Tryd.func27 rfl Go.Proofs.Tryd.ntmps27 rfl fun a hf => ?_
  replace hf : Fr 26 [(0, a0v711), (1, a1v713)] a := hf
  unfold keep_Pairs.f at hp
  refine wp_seq ?_
  refine wp_region_lit ?_
  refine o_run hf (r_assign hf rfl) rfl fun a hf => ?_
  refine o_nil ?_
  refine c_then ?_
  refine wp_seq ?_
  refine wp_seq ?_
  refine wp_region_lit ?_
  refine o_run hf (r_move hf rfl) rfl fun a hf => ?_
  refine o_run hf (r_lenL (K := ek_Pair) hf el_45 rfl (hR712.rd hw)) rfl fun a hf => ?_
  refine o_run hf (r_move hf rfl) rfl fun a hf => ?_
  refine o_run hf (r_lenL (K := ek_Pair) hf el_45 rfl (hR714.rd hw)) rfl fun a hf => ?_
  refine o_run hf (r_icmp hf rfl rfl rfl) rfl fun a hf => ?_
  refine o_nil ?_
  refine c_then ?_
  refine c_cond hf rfl (fun hb1 => ?_) (fun hb1 => ?_)
  · replace hp := cond_t hb1 hp
    refine wp_seq ?_
    refine wp_region_lit ?_
    refine o_run hf (r_assign hf rfl) rfl fun a hf => ?_
    refine o_nil ?_
    refine c_then ?_
    refine wp_ret ?_
    refine c_thenR ?_
    have ho := out_inj hp
    subst ho
    exact b_ret1 hf Go.Proofs.Tryd.results27 rfl ⟨_, rfl, ⟨rfl, hw⟩⟩
  · replace hp := cond_f hb1 hp
    refine wp_skip ?_
    refine c_then ?_
    refine wp_seq ?_
    refine wp_seq ?_
    refine wp_region_lit ?_
    refine o_run hf (r_assign hf rfl) rfl fun a hf => ?_
    refine o_nil ?_
    refine c_then ?_
    obtain ⟨out19, hp, hq20⟩ := bind_some hp
    refine c_cutX (fun a w => (.inl ()) = out19 ∧ Ok E I (F) w ∧ Fr 26 ([]) a) ?_ ?_
    · refine wp_block ?_
      refine c_loop ?_
      refine c_fuel (keep_Pairs.l0 a0 a1) out19 (fun (y13 : Int) a w => Ok E I (F) w ∧ Fr 26 ([(0, a0v711), (1, a1v713), (5, Value.int .i64 y13)]) a) (fun _ => rfl) ?_ BIG 0 _ _ ⟨hw, hf.to ⟨rfl, rfl, rfl, trivial⟩⟩ hp
      intro k y13 a w hI hp ih
      obtain ⟨hw, hf⟩ := hI
      rw [keep_Pairs.l0] at hp
      refine wp_seq ?_
      refine wp_seq ?_
      refine wp_region_lit ?_
      refine o_run hf (r_move hf rfl) rfl fun a hf => ?_
      refine o_run hf (r_move hf rfl) rfl fun a hf => ?_
      refine o_run hf (r_lenL (K := ek_Pair) hf el_45 rfl (hR712.rd hw)) rfl fun a hf => ?_
      refine o_run hf (r_icmp hf rfl rfl rfl) rfl fun a hf => ?_
      refine o_nil ?_
      refine c_then ?_
      refine c_cond hf rfl (fun hb22 => ?_) (fun hb22 => ?_)
      · replace hp := cond_t hb22 hp
        refine wp_skip ?_
        refine c_then ?_
        refine wp_seq ?_
        refine wp_block ?_
        refine wp_seq ?_
        refine c_drawn mix [] (.rd 0 (.rd 1 (.rd 2 (.rd 3 (.rd 4 (.rd 5 (.rd 6 (.rd 7 (.rd 8 .done))))))))) (by kernel_rfl) hw (fun w => Ok E I (F) w) (fun w hw => ⟨hw.sub (List.Sublist.refl _), ?_⟩)
        refine t_rd rfl hf (fun w hw => r_move hf rfl) rfl fun a hf => ?_
        refine t_rd rfl hf (fun w hw => r_move hf rfl) rfl fun a hf => ?_
        obtain ⟨hg24, hp⟩ := gd_some hp
        refine t_rd rfl hf (fun w hw => r_indexAddr (K := ek_Pair) hf el_45 rfl rfl (hR712.rd hw) hg24) rfl fun a hf => ?_
        refine t_rd rfl hf (fun w hw => r_loadHP (K := ek_Pair) hf rfl ty_58 (hR712.rd hw) hg24 rfl (vs := [Value.string ((gt a0 y13).key_), Value.string ((gt a0 y13).value_)]) (fun cs h => Pair_all h) (by simp [arrC_len])) rfl fun a hf => ?_
        refine t_rd rfl hf (fun w hw => r_move hf rfl) rfl fun a hf => ?_
        refine t_rd rfl hf (fun w hw => r_move hf rfl) rfl fun a hf => ?_
        obtain ⟨hg25, hp⟩ := gd_some hp
        refine t_rd rfl hf (fun w hw => r_indexAddr (K := ek_Pair) hf el_45 rfl rfl (hR714.rd hw) hg25) rfl fun a hf => ?_
        refine t_rd rfl hf (fun w hw => r_loadHP (K := ek_Pair) hf rfl ty_58 (hR714.rd hw) hg25 rfl (vs := [Value.string ((gt a1 y13).key_), Value.string ((gt a1 y13).value_)]) (fun cs h => Pair_all h) (by simp [arrC_len])) rfl fun a hf => ?_
        refine t_rd rfl hf (fun w hw => r_neq_Pair hf (x := (gt a0 y13)) (y := (gt a1 y13)) rfl rfl) rfl fun a hf => ?_
        refine t_done ?_
        refine c_then ?_
        refine c_cond hf rfl (fun hb26 => ?_) (fun hb26 => ?_)
        · replace hp := cond_t hb26 hp
          refine wp_seq ?_
          refine wp_region_lit ?_
          refine o_run hf (r_assign hf rfl) rfl fun a hf => ?_
          refine o_nil ?_
          refine c_then ?_
          refine wp_ret ?_
          refine c_blockR ?_
          refine c_thenR ?_
          refine c_thenR ?_
          refine c_blockR ?_
          refine c_thenR ?_
          have ho := out_inj hp
          subst ho
          replace hp := hq20
          refine c_thenR ?_
          have ho := out_inj hp
          subst ho
          exact b_ret1 hf Go.Proofs.Tryd.results27 rfl ⟨_, rfl, ⟨rfl, hw⟩⟩
        · replace hp := cond_f hb26 hp
          refine wp_skip ?_
          refine c_blockN ?_
          refine c_then ?_
          refine wp_region_lit ?_
          refine o_run hf (r_move hf rfl) rfl fun a hf => ?_
          refine o_run hf (r_add hf rfl rfl) rfl fun a hf => ?_
          refine o_run hf (r_assign hf rfl) rfl fun a hf => ?_
          refine o_nil ?_
          refine c_then ?_
          exact ih (w64 (y13 + 1)) _ _ ⟨hw, hf.to ⟨rfl, rfl, rfl, trivial⟩⟩ hp
      · replace hp := cond_f hb22 hp
        refine wp_exit ?_
        refine c_thenE ?_
        refine c_thenE ?_
        refine c_exit ?_
        refine c_then ?_
        have ho := out_inj hp
        subst ho
        exact ⟨rfl, hw, hf.to trivial⟩
    · intro a w hM
      obtain ⟨rfl, hw, hf⟩ := hM
      replace hp := hq20
      refine c_then ?_
      refine wp_seq ?_
      refine wp_region_lit ?_
      refine o_run hf (r_assign hf rfl) rfl fun a hf => ?_
      refine o_nil ?_
      refine c_then ?_
      refine wp_ret ?_
      have ho := out_inj hp
      subst ho
      exact b_ret1 hf Go.Proofs.Tryd.results27 rfl ⟨_, rfl, ⟨rfl, hw⟩⟩

set_option maxHeartbeats 1000000 in
set_option maxRecDepth 20000 in
theorem keep_Texts_ok {E : World} {I : IH} {F : List Atom} {w : World} {a0 : List ByteArray} {a0v37 : Value} {a1 : List ByteArray} {a1v39 : Value} {res0 : Bool} (hw : Ok E I (F) w) (hG : Gl I) (hR38 : RS ekS I a0v37 a0) (hR40 : RS ekS I a1v39 a1) (hp : keep_Texts.f a0 a1 = some res0) :
    Calls P 19 ⟨[a0v37, a1v39]⟩ w fun e w' => ∃ v, e = .returned v ∧ v = Value.bool res0 ∧ Ok E I (F) w' := by
  refine c_enter Go.Proofs.Tryd.func19 rfl Go.Proofs.Tryd.ntmps19 rfl fun a hf => ?_
  replace hf : Fr 26 [(0, a0v37), (1, a1v39)] a := hf
  unfold keep_Texts.f at hp
  refine wp_seq ?_
  refine wp_region_lit ?_
  refine o_run hf (r_assign hf rfl) rfl fun a hf => ?_
  refine o_nil ?_
  refine c_then ?_
  refine wp_seq ?_
  refine wp_seq ?_
  refine wp_region_lit ?_
  refine o_run hf (r_move hf rfl) rfl fun a hf => ?_
  refine o_run hf (r_lenL (K := ekS) hf el_28 rfl (hR38.rd hw)) rfl fun a hf => ?_
  refine o_run hf (r_move hf rfl) rfl fun a hf => ?_
  refine o_run hf (r_lenL (K := ekS) hf el_28 rfl (hR40.rd hw)) rfl fun a hf => ?_
  refine o_run hf (r_icmp hf rfl rfl rfl) rfl fun a hf => ?_
  refine o_nil ?_
  refine c_then ?_
  refine c_cond hf rfl (fun hb1 => ?_) (fun hb1 => ?_)
  · replace hp := cond_t hb1 hp
    refine wp_seq ?_
    refine wp_region_lit ?_
    refine o_run hf (r_assign hf rfl) rfl fun a hf => ?_
    refine o_nil ?_
    refine c_then ?_
    refine wp_ret ?_
    refine c_thenR ?_
    have ho := out_inj hp
    subst ho
    exact b_ret1 hf Go.Proofs.Tryd.results19 rfl ⟨_, rfl, ⟨rfl, hw⟩⟩
  · replace hp := cond_f hb1 hp
    refine wp_skip ?_
    refine c_then ?_
    refine wp_seq ?_
    refine wp_seq ?_
    refine wp_region_lit ?_
    refine o_run hf (r_assign hf rfl) rfl fun a hf => ?_
    refine o_nil ?_
    refine c_then ?_
    obtain ⟨out19, hp, hq20⟩ := bind_some hp
    refine c_cutX (fun a w => (.inl ()) = out19 ∧ Ok E I (F) w ∧ Fr 26 ([]) a) ?_ ?_
    · refine wp_block ?_
      refine c_loop ?_
      refine c_fuel (keep_Texts.l0 a0 a1) out19 (fun (y13 : Int) a w => Ok E I (F) w ∧ Fr 26 ([(0, a0v37), (1, a1v39), (5, Value.int .i64 y13)]) a) (fun _ => rfl) ?_ BIG 0 _ _ ⟨hw, hf.to ⟨rfl, rfl, rfl, trivial⟩⟩ hp
      intro k y13 a w hI hp ih
      obtain ⟨hw, hf⟩ := hI
      rw [keep_Texts.l0] at hp
      refine wp_seq ?_
      refine wp_seq ?_
      refine wp_region_lit ?_
      refine o_run hf (r_move hf rfl) rfl fun a hf => ?_
      refine o_run hf (r_move hf rfl) rfl fun a hf => ?_
      refine o_run hf (r_lenL (K := ekS) hf el_28 rfl (hR38.rd hw)) rfl fun a hf => ?_
      refine o_run hf (r_icmp hf rfl rfl rfl) rfl fun a hf => ?_
      refine o_nil ?_
      refine c_then ?_
      refine c_cond hf rfl (fun hb22 => ?_) (fun hb22 => ?_)
      · replace hp := cond_t hb22 hp
        refine wp_skip ?_
        refine c_then ?_
        refine wp_seq ?_
        refine wp_block ?_
        refine wp_seq ?_
        refine c_drawn mix [] (.rd 0 (.rd 1 (.rd 2 (.rd 3 (.rd 4 (.rd 5 (.rd 6 (.rd 7 (.rd 8 .done))))))))) (by kernel_rfl) hw (fun w => Ok E I (F) w) (fun w hw => ⟨hw.sub (List.Sublist.refl _), ?_⟩)
        refine t_rd rfl hf (fun w hw => r_move hf rfl) rfl fun a hf => ?_
        refine t_rd rfl hf (fun w hw => r_move hf rfl) rfl fun a hf => ?_
        obtain ⟨hg24, hp⟩ := gd_some hp
        refine t_rd rfl hf (fun w hw => r_indexAddr (K := ekS) hf el_28 rfl rfl (hR38.rd hw) hg24) rfl fun a hf => ?_
        refine t_rd rfl hf (fun w hw => r_loadH (K := ekS) hf rfl ty_9 (hR38.rd hw) hg24 rfl (fun cs h => ekS_f0 h)) rfl fun a hf => ?_
        refine t_rd rfl hf (fun w hw => r_move hf rfl) rfl fun a hf => ?_
        refine t_rd rfl hf (fun w hw => r_move hf rfl) rfl fun a hf => ?_
        obtain ⟨hg25, hp⟩ := gd_some hp
        refine t_rd rfl hf (fun w hw => r_indexAddr (K := ekS) hf el_28 rfl rfl (hR40.rd hw) hg25) rfl fun a hf => ?_
        refine t_rd rfl hf (fun w hw => r_loadH (K := ekS) hf rfl ty_9 (hR40.rd hw) hg25 rfl (fun cs h => ekS_f0 h)) rfl fun a hf => ?_
        refine t_rd rfl hf (fun w hw => r_scmp hf rfl rfl rfl) rfl fun a hf => ?_
        refine t_done ?_
        refine c_then ?_
        refine c_cond hf rfl (fun hb26 => ?_) (fun hb26 => ?_)
        · replace hp := cond_t hb26 hp
          refine wp_seq ?_
          refine wp_region_lit ?_
          refine o_run hf (r_assign hf rfl) rfl fun a hf => ?_
          refine o_nil ?_
          refine c_then ?_
          refine wp_ret ?_
          refine c_blockR ?_
          refine c_thenR ?_
          refine c_thenR ?_
          refine c_blockR ?_
          refine c_thenR ?_
          have ho := out_inj hp
          subst ho
          replace hp := hq20
          refine c_thenR ?_
          have ho := out_inj hp
          subst ho
          exact b_ret1 hf Go.Proofs.Tryd.results19 rfl ⟨_, rfl, ⟨rfl, hw⟩⟩
        · replace hp := cond_f hb26 hp
          refine wp_skip ?_
          refine c_blockN ?_
          refine c_then ?_
          refine wp_region_lit ?_
          refine o_run hf (r_move hf rfl) rfl fun a hf => ?_
          refine o_run hf (r_add hf rfl rfl) rfl fun a hf => ?_
          refine o_run hf (r_assign hf rfl) rfl fun a hf => ?_
          refine o_nil ?_
          refine c_then ?_
          exact ih (w64 (y13 + 1)) _ _ ⟨hw, hf.to ⟨rfl, rfl, rfl, trivial⟩⟩ hp
      · replace hp := cond_f hb22 hp
        refine wp_exit ?_
        refine c_thenE ?_
        refine c_thenE ?_
        refine c_exit ?_
        refine c_then ?_
        have ho := out_inj hp
        subst ho
        exact ⟨rfl, hw, hf.to trivial⟩
    · intro a w hM
      obtain ⟨rfl, hw, hf⟩ := hM
      replace hp := hq20
      refine c_then ?_
      refine wp_seq ?_
      refine wp_region_lit ?_
      refine o_run hf (r_assign hf rfl) rfl fun a hf => ?_
      refine o_nil ?_
      refine c_then ?_
      refine wp_ret ?_
      have ho := out_inj hp
      subst ho
      exact b_ret1 hf Go.Proofs.Tryd.results19 rfl ⟨_, rfl, ⟨rfl, hw⟩⟩
end Go.Lf
