/- The Go functions compute the plain Lean functions (printed by our lift.py). -/
import Derived.Test.YtckhmgglgbnaaaaZD
import Derived.Test.YtckhmgglgbnaaaaZF
import Derived.Test.YtckhmgglgbnaaaaZK0
import Derived.Test.YtckhmgglgbnaaaaZK1
import Derived.Test.YtckhmgglgbnaaaaZK6
import Derived.Test.YtckhmgglgbnaaaaZK7
import Derived.Test.YtckhmgglgbnaaaaZK8
set_option linter.unusedVariables false
set_option linter.unusedSimpArgs false
namespace Go.Lf
open Go
set_option maxHeartbeats 1000000 in
set_option maxRecDepth 20000 in
theorem law19_PackParts_ok {E : World} {I : IH} {F : List Atom} {w : World} {a0 : List Pair} {a0v1 : Value} {res0 : Bool} (hw : Ok E I (F) w) (hR2 : RS ek_Pair I a0v1 a0) (hp : law19_PackParts.f a0 = some res0) :
    Calls P 4 ⟨[a0v1]⟩ w fun e w' => ∃ v, e = .returned v ∧ v = Value.bool res0 ∧ Ok E I (F) w' := by
  refine c_enter Go.Proofs.Try.func4 rfl Go.Proofs.Try.ntmps4 rfl fun a hf => ?_
  replace hf : Fr 330 [(0, a0v1)] a := hf
  unfold law19_PackParts.f at hp
  refine wp_seq ?_
  refine wp_region_lit ?_
  refine o_run hf (r_assign hf rfl) rfl fun a hf => ?_
  refine o_nil ?_
  refine c_then ?_
  refine wp_seq ?_
  obtain ⟨out160, hp, hq161⟩ := bind_some hp
  refine c_cut (fun a w => ∃ y159 : Bool, y159 = out160 ∧ Ok E I (F) w ∧ Fr 330 ([(0, a0v1), (26, Value.bool y159)]) a) ?_ ?_
  · refine wp_region_lit ?_
    refine o_run hf (r_move hf rfl) rfl fun a hf => ?_
    obtain ⟨y162, hy163, hp⟩ := bind_some hp
    have hc165 := keep_LongPairs_ok hw hR2 hy163
    refine o_call hf cb_22 rfl rfl hc165 (fun v167 w a hK166 hf => ?_)
    obtain ⟨rfl, hw⟩ := hK166
    refine o_run hf (r_move hf rfl) rfl fun a hf => ?_
    refine g_split hf (g := 22) rfl (fun hb168 hf => ?_) (fun hb168 hf => ?_)
    · replace hp := cond_t hb168 hp
      refine o_skip hf (g := 22) rfl rfl rfl rfl rfl rfl fun a hf => ?_
      refine o_skip hf (g := 22) rfl rfl rfl rfl rfl rfl fun a hf => ?_
      refine o_skip hf (g := 22) rfl rfl rfl rfl rfl rfl fun a hf => ?_
      refine o_run hf (r_pickT hf rfl rfl) rfl fun a hf => ?_
      refine o_nil ?_
      refine c_then ?_
      have ho := out_inj hp
      subst ho
      exact ⟨true, rfl, hw, hf.to ⟨rfl, rfl, trivial⟩⟩
    · replace hp := cond_f hb168 hp
      refine o_want hf (g := 22) rfl rfl ?_
      refine o_run hf (r_move hf rfl) rfl fun a hf => ?_
      refine o_want hf (g := 22) rfl rfl ?_
      obtain ⟨y169, hy170, hp⟩ := bind_some hp
      have hc172 := ref10_May_ok hw hR2 hy170
      refine o_call hf cb_23 rfl rfl hc172 (fun v174 w a hK173 hf => ?_)
      obtain ⟨rfl, hw⟩ := hK173
      refine o_want hf (g := 22) rfl rfl ?_
      refine o_run hf (r_not hf rfl) rfl fun a hf => ?_
      refine o_run hf (r_pickF hf rfl rfl) rfl fun a hf => ?_
      refine o_nil ?_
      refine c_then ?_
      have ho := out_inj hp
      subst ho
      exact ⟨(!y169), rfl, hw, hf.to ⟨rfl, rfl, trivial⟩⟩
  · intro a w hM
    obtain ⟨y159, rfl, hw, hf⟩ := hM
    replace hp := hq161
    refine c_cond hf rfl (fun hb175 => ?_) (fun hb175 => ?_)
    · replace hp := cond_t hb175 hp
      refine wp_seq ?_
      refine wp_region_lit ?_
      obtain ⟨y176, hy177, hp⟩ := bind_some hp
      have hc179 := law19_wakes_ok hw hy177
      refine o_call hf cb_13 rfl rfl hc179 (fun v181 w a hK180 hf => ?_)
      obtain ⟨rfl, hw⟩ := hK180
      refine o_run hf (r_assign hf rfl) rfl fun a hf => ?_
      refine o_nil ?_
      refine c_then ?_
      refine wp_ret ?_
      refine c_thenR ?_
      have ho := out_inj hp
      subst ho
      exact b_ret1 hf Go.Proofs.Try.results4 rfl ⟨_, rfl, ⟨rfl, hw⟩⟩
    · replace hp := cond_f hb175 hp
      refine wp_skip ?_
      refine c_then ?_
      refine wp_seq ?_
      refine wp_region_lit ?_
      refine o_run hf (r_move hf rfl) rfl fun a hf => ?_
      obtain ⟨y182, hy183, hp⟩ := bind_some hp
      have hc185 := ref10_Build_ok hw hR2 hy183
      refine o_call hf cb_24 rfl rfl hc185 (fun v191 w a hK186 hf => ?_)
      obtain ⟨I2_186, rvv187, rvv189, rfl, hle192, hw, hR188, hR190⟩ := hK186
      replace hR2 := hR2.mono hle192
      obtain ⟨b193, w, hrun194, hw⟩ := e_alloc (P := P) (a := a) hw ty_47
      replace hw : Ok E I2_186 (.blk b193 (.cells ⟨[Value.slice none 0 0, Value.slice none 0 0, Value.bool false]⟩ 47 (0, 0)) :: F) w := hw
      refine o_eff hf (hrun194 ..) rfl fun a hf => ?_
      obtain ⟨w, hrun196, hw⟩ := e_store (P := P) hw hf (x := .tmp 3) (y := .tmp 29) rfl rfl ty_47 0 rfl (vs := [rvv187, rvv189, Value.bool y182.ok_]) rfl rfl (ones_cons hR188.one (ones_cons hR190.one (ones_cons rfl ones_nil))) (by simp [arrC_len]) (cs' := [rvv187, rvv189, Value.bool y182.ok_]) rfl
      replace hw : Ok E I2_186 (.blk b193 (.cells ⟨[rvv187, rvv189, Value.bool y182.ok_]⟩ 47 (0, 0)) :: F) w := hw
      refine o_effU (hrun196 ..) ?_
      refine o_nil ?_
      refine c_then ?_
      refine wp_seq ?_
      refine wp_region_lit ?_
      refine o_run hf (r_fieldAddr hf rfl fd_47_0) rfl fun a hf => ?_
      refine o_run hf (r_load hw hf rfl ty_23 0 rfl rfl) rfl fun a hf => ?_
      refine o_run hf (r_assign hf rfl) rfl fun a hf => ?_
      refine o_nil ?_
      refine c_then ?_
      refine wp_seq ?_
      refine wp_region_lit ?_
      refine o_run hf (r_move hf rfl) rfl fun a hf => ?_
      obtain ⟨y200, hy199, hp⟩ := bind_some hp
      obtain ⟨y197, y198⟩ := y200
      have hc201 := pack_Of_ok hw hR188 hy199
      refine o_call hf cb_14 rfl rfl hc201 (fun v205 w a hK202 hf => ?_)
      obtain ⟨I2_202, rvv203, rfl, hle206, hw, hR204⟩ := hK202
      replace hR2 := hR2.mono hle206
      replace hR188 := hR188.mono hle206
      replace hR190 := hR190.mono hle206
      refine o_run hf (r_move hf rfl) rfl fun a hf => ?_
      refine o_run hf (r_extract hf rfl rfl) rfl fun a hf => ?_
      refine o_run hf (r_extract hf rfl rfl) rfl fun a hf => ?_
      refine o_run hf (r_assign hf rfl) rfl fun a hf => ?_
      refine o_run hf (r_assign hf rfl) rfl fun a hf => ?_
      refine o_nil ?_
      refine c_then ?_
      refine wp_seq ?_
      obtain ⟨out217, hp, hq218⟩ := bind_some hp
      refine c_cut (fun a w => ∃ y216 : Bool, y216 = out217 ∧ Ok E I2_202 (.blk b193 (.cells ⟨[rvv187, rvv189, Value.bool y182.ok_]⟩ 47 (0, 0)) :: F) w ∧ Fr 330 ([(3, Value.pointer (some ⟨b193, 0, none⟩)), (4, rvv187), (5, rvv203), (47, Value.bool y216)]) a) ?_ ?_
      · refine wp_region_lit ?_
        refine o_run hf (r_move hf rfl) rfl fun a hf => ?_
        refine o_run hf (r_not hf rfl) rfl fun a hf => ?_
        refine o_run hf (r_move hf rfl) rfl fun a hf => ?_
        refine g_split hf (g := 39) rfl (fun hb219 hf => ?_) (fun hb219 hf => ?_)
        · replace hp := cond_t hb219 hp
          refine o_skip hf (g := 39) rfl rfl rfl rfl rfl rfl fun a hf => ?_
          refine o_skip hf (g := 39) rfl rfl rfl rfl rfl rfl fun a hf => ?_
          refine o_skip hf (g := 39) rfl rfl rfl rfl rfl rfl fun a hf => ?_
          refine o_skip hf (g := 39) rfl rfl rfl rfl rfl rfl fun a hf => ?_
          refine o_skip hf (g := 39) rfl rfl rfl rfl rfl rfl fun a hf => ?_
          refine o_skip hf (g := 39) rfl rfl rfl rfl rfl rfl fun a hf => ?_
          refine o_skip hf (g := 39) rfl rfl rfl rfl rfl rfl fun a hf => ?_
          refine o_run hf (r_pickT hf rfl rfl) rfl fun a hf => ?_
          refine o_nil ?_
          refine c_then ?_
          have ho := out_inj hp
          subst ho
          exact ⟨true, rfl, hw, hf.to ⟨rfl, rfl, rfl, rfl, trivial⟩⟩
        · replace hp := cond_f hb219 hp
          refine o_want hf (g := 39) rfl rfl ?_
          refine o_run hf (r_move hf rfl) rfl fun a hf => ?_
          refine o_want hf (g := 39) rfl rfl ?_
          refine o_run hf (r_lenL (K := ek_Plan) hf el_29 rfl (hR204.rd hw)) rfl fun a hf => ?_
          refine o_want hf (g := 39) rfl rfl ?_
          refine o_run hf (r_icmp hf rfl rfl rfl) rfl fun a hf => ?_
          refine o_want hf (g := 39) rfl rfl ?_
          refine o_run hf (r_move hf rfl) rfl fun a hf => ?_
          refine o_want hf (g := 39) rfl rfl ?_
          refine o_run hf (r_lenL (K := ek_Node) hf el_23 rfl (hR188.rd hw)) rfl fun a hf => ?_
          refine o_want hf (g := 39) rfl rfl ?_
          refine o_run hf (r_icmp hf rfl rfl rfl) rfl fun a hf => ?_
          refine o_want hf (g := 39) rfl rfl ?_
          refine o_run hf (r_bne hf und_4 rfl rfl) rfl fun a hf => ?_
          refine o_run hf (r_pickF hf rfl rfl) rfl fun a hf => ?_
          refine o_nil ?_
          refine c_then ?_
          have ho := out_inj hp
          subst ho
          exact ⟨(!(((y197.length : Int) == 0) == ((y182.t_.length : Int) == 0))), rfl, hw, hf.to ⟨rfl, rfl, rfl, rfl, trivial⟩⟩
      · intro a w hM
        obtain ⟨y216, rfl, hw, hf⟩ := hM
        replace hp := hq218
        refine c_cond hf rfl (fun hb220 => ?_) (fun hb220 => ?_)
        · replace hp := cond_t hb220 hp
          refine wp_seq ?_
          refine wp_region_lit ?_
          refine o_run hf (r_assign hf rfl) rfl fun a hf => ?_
          refine o_nil ?_
          refine c_then ?_
          refine wp_ret ?_
          refine c_thenR ?_
          replace hw : Ok E I2_202 (F) w := hw.sub (List.Sublist.cons _ (List.Sublist.refl _))
          have ho := out_inj hp
          subst ho
          exact b_ret1 hf Go.Proofs.Try.results4 rfl ⟨_, rfl, ⟨rfl, (hw.back (IH.le_trans hle192 hle206) (List.Sublist.refl _))⟩⟩
        · replace hp := cond_f hb220 hp
          refine wp_skip ?_
          refine c_then ?_
          refine wp_seq ?_
          refine wp_region_lit ?_
          refine o_run hf (r_move hf rfl) rfl fun a hf => ?_
          refine o_run hf (r_lenL (K := ek_Node) hf el_23 rfl (hR188.rd hw)) rfl fun a hf => ?_
          obtain ⟨hg221, hp⟩ := gd_some hp
          obtain ⟨w, v222, cs225, hrun223, hw, hRR224⟩ := e_makeSlice (P := P) (K := (ekI .i64)) hw hf (l := .tmp 49) (c := .tmp 49) el_24 ty_3 rfl (by decide) rfl rfl (x := 0) (fun _ => rfl) hg221
          refine o_eff hf (hrun223 ..) rfl fun a hf => ?_
          refine o_run hf (r_assign hf rfl) rfl fun a hf => ?_
          refine o_nil ?_
          refine c_then ?_
          refine wp_seq ?_
          refine wp_seq ?_
          refine wp_region_lit ?_
          refine o_run hf (r_assign hf rfl) rfl fun a hf => ?_
          refine o_nil ?_
          refine c_then ?_
          obtain ⟨out259, hp, hq260⟩ := bind_some hp
          refine c_cutX (fun a w => ∃ y254 : List Int, ∃ yv255 : Value, ∃ m256 : Nat, ∃ cs257 : List Value, y254 = out259 ∧ Ok E I2_202 (.row yv255 3 1 m256 cs257 :: .blk b193 (.cells ⟨[rvv187, rvv189, Value.bool y182.ok_]⟩ 47 (0, 0)) :: F) w ∧ Fr 330 ([(3, Value.pointer (some ⟨b193, 0, none⟩)), (4, rvv187), (5, rvv203), (7, yv255)]) a ∧ RowR (ekI .i64) I2_202 cs257 y254) ?_ ?_
          · refine wp_block ?_
            refine c_loop ?_
            refine c_fuel (law19_PackParts.l0) out259 (fun (y243, y248) a w => ∃ yv244 : Value, ∃ m245 : Nat, ∃ cs246 : List Value, Ok E I2_202 (.row yv244 3 1 m245 cs246 :: .blk b193 (.cells ⟨[rvv187, rvv189, Value.bool y182.ok_]⟩ 47 (0, 0)) :: F) w ∧ Fr 330 ([(3, Value.pointer (some ⟨b193, 0, none⟩)), (4, rvv187), (5, rvv203), (7, yv244), (8, Value.int .i64 y248)]) a ∧ RowR (ekI .i64) I2_202 cs246 y243) (fun _ => rfl) ?_ BIG (List.replicate (y182.t_.length : Int).toNat 0, 0) _ _ ⟨v222, (((y182.t_.length : Int)).toNat), cs225, hw, hf.to ⟨rfl, rfl, rfl, rfl, rfl, trivial⟩, hRR224⟩ hp
            intro k st a w hI hp ih
            obtain ⟨y243, y248⟩ := st
            obtain ⟨yv244, m245, cs246, hw, hf, hRR247⟩ := hI
            rw [law19_PackParts.l0] at hp
            refine wp_seq ?_
            refine wp_seq ?_
            refine wp_region_lit ?_
            refine o_run hf (r_move hf rfl) rfl fun a hf => ?_
            refine o_run hf (r_move hf rfl) rfl fun a hf => ?_
            refine o_run hf (r_lenL (K := (ekI .i64)) hf el_24 rfl (row_rd (K := (ekI .i64)) hw (i := 0) rfl hRR247)) rfl fun a hf => ?_
            refine o_run hf (r_icmp hf rfl rfl rfl) rfl fun a hf => ?_
            refine o_nil ?_
            refine c_then ?_
            refine c_cond hf rfl (fun hb262 => ?_) (fun hb262 => ?_)
            · replace hp := cond_t hb262 hp
              refine wp_skip ?_
              refine c_then ?_
              refine wp_seq ?_
              refine wp_block ?_
              refine wp_region_lit ?_
              refine o_run hf (r_move hf rfl) rfl fun a hf => ?_
              refine o_run hf (r_move hf rfl) rfl fun a hf => ?_
              obtain ⟨hg263, hp⟩ := gd_some hp
              refine o_run hf (r_indexAddr (K := (ekI .i64)) hf el_24 rfl rfl (row_rd (K := (ekI .i64)) hw (i := 0) rfl hRR247) hg263) rfl fun a hf => ?_
              obtain ⟨w, cs265, hrun264, hw, hRR266⟩ := e_storeH (P := P) (K := (ekI .i64)) hw hf (x := .tmp 59) (y := .const (Value.int .i64 (-1))) rfl rfl ty_3 0 rfl hRR247 hg263 rfl (vs := [Value.int .i64 (-1)]) (one_cells rfl) rfl (ones_cons rfl ones_nil) (Nat.le_of_eq (by rfl)) (x' := (-1)) (whole_store rfl)
              replace hw : Ok E I2_202 (.row yv244 3 1 m245 cs265 :: .blk b193 (.cells ⟨[rvv187, rvv189, Value.bool y182.ok_]⟩ 47 (0, 0)) :: F) w := hw
              refine o_effU (hrun264 ..) ?_
              refine o_nil ?_
              refine c_blockN ?_
              refine c_then ?_
              refine wp_region_lit ?_
              refine o_run hf (r_move hf rfl) rfl fun a hf => ?_
              refine o_run hf (r_add hf rfl rfl) rfl fun a hf => ?_
              refine o_run hf (r_assign hf rfl) rfl fun a hf => ?_
              refine o_nil ?_
              refine c_then ?_
              exact ih (y243.set y248.toNat (-1), w64 (y248 + 1)) _ _ ⟨yv244, m245, cs265, hw, hf.to ⟨rfl, rfl, rfl, rfl, rfl, trivial⟩, hRR266⟩ hp
            · replace hp := cond_f hb262 hp
              refine wp_exit ?_
              refine c_thenE ?_
              refine c_thenE ?_
              refine c_exit ?_
              refine c_then ?_
              have ho := out_inj hp
              subst ho
              exact ⟨y243, yv244, m245, cs246, rfl, hw, hf.to ⟨rfl, rfl, rfl, rfl, trivial⟩, hRR247⟩
          · intro a w hM
            obtain ⟨y254, yv255, m256, cs257, rfl, hw, hf, hRR258⟩ := hM
            replace hp := hq260
            refine c_then ?_
            refine wp_seq ?_
            refine wp_region_lit ?_
            refine o_run hf (r_move hf rfl) rfl fun a hf => ?_
            refine o_run hf (r_lenL (K := ek_Plan) hf el_29 rfl (hR204.rd hw)) rfl fun a hf => ?_
            obtain ⟨hg268, hp⟩ := gd_some hp
            obtain ⟨w, v269, cs272, hrun270, hw, hRR271⟩ := e_makeSlice (P := P) (K := (ekI .i64)) hw hf (l := .tmp 61) (c := .tmp 61) el_24 ty_3 rfl (by decide) rfl rfl (x := 0) (fun _ => rfl) hg268
            refine o_eff hf (hrun270 ..) rfl fun a hf => ?_
            refine o_run hf (r_assign hf rfl) rfl fun a hf => ?_
            refine o_nil ?_
            refine c_then ?_
            refine wp_seq ?_
            refine wp_seq ?_
            refine wp_region_lit ?_
            refine o_run hf (r_assign hf rfl) rfl fun a hf => ?_
            refine o_nil ?_
            refine c_then ?_
            obtain ⟨out11115, hp, hq11116⟩ := bind_some hp
            refine c_cutX (fun a w => ∃ y11105 : List Int, ∃ y11110 : List Int, ∃ yv11106 : Value, ∃ m11107 : Nat, ∃ cs11108 : List Value, ∃ yv11111 : Value, ∃ m11112 : Nat, ∃ cs11113 : List Value, (.inl (y11105, y11110)) = out11115 ∧ Ok E I2_202 (.row yv11111 3 1 m11112 cs11113 :: .row yv11106 3 1 m11107 cs11108 :: .blk b193 (.cells ⟨[rvv187, rvv189, Value.bool y182.ok_]⟩ 47 (0, 0)) :: F) w ∧ Fr 330 ([(4, rvv187), (5, rvv203), (7, yv11106), (9, yv11111)]) a ∧ RowR (ekI .i64) I2_202 cs11108 y11105 ∧ RowR (ekI .i64) I2_202 cs11113 y11110) ?_ ?_
            · refine wp_block ?_
              refine c_loop ?_
              refine c_fuel (law19_PackParts.l1 y182 y197) out11115 (fun (y7491, y7496, y7501) a w => ∃ yv7492 : Value, ∃ m7493 : Nat, ∃ cs7494 : List Value, ∃ yv7497 : Value, ∃ m7498 : Nat, ∃ cs7499 : List Value, Ok E I2_202 (.row yv7497 3 1 m7498 cs7499 :: .row yv7492 3 1 m7493 cs7494 :: .blk b193 (.cells ⟨[rvv187, rvv189, Value.bool y182.ok_]⟩ 47 (0, 0)) :: F) w ∧ Fr 330 ([(3, Value.pointer (some ⟨b193, 0, none⟩)), (4, rvv187), (5, rvv203), (7, yv7492), (9, yv7497), (10, Value.int .i64 y7501)]) a ∧ RowR (ekI .i64) I2_202 cs7494 y7491 ∧ RowR (ekI .i64) I2_202 cs7499 y7496) (fun _ => rfl) ?_ BIG (y254, List.replicate (y197.length : Int).toNat 0, 0) _ _ ⟨yv255, m256, cs257, v269, (((y197.length : Int)).toNat), cs272, hw, hf.to ⟨rfl, rfl, rfl, rfl, rfl, rfl, trivial⟩, hRR258, hRR271⟩ hp
              intro k st a w hI hp ih
              obtain ⟨y7491, y7496, y7501⟩ := st
              obtain ⟨yv7492, m7493, cs7494, yv7497, m7498, cs7499, hw, hf, hRR7495, hRR7500⟩ := hI
              rw [law19_PackParts.l1] at hp
              refine wp_seq ?_
              refine wp_seq ?_
              refine wp_region_lit ?_
              refine o_run hf (r_move hf rfl) rfl fun a hf => ?_
              refine o_run hf (r_move hf rfl) rfl fun a hf => ?_
              refine o_run hf (r_lenL (K := ek_Plan) hf el_29 rfl (hR204.rd hw)) rfl fun a hf => ?_
              refine o_run hf (r_icmp hf rfl rfl rfl) rfl fun a hf => ?_
              refine o_nil ?_
              refine c_then ?_
              refine c_cond hf rfl (fun hb11118 => ?_) (fun hb11118 => ?_)
              · replace hp := cond_t hb11118 hp
                refine wp_skip ?_
                refine c_then ?_
                refine wp_seq ?_
                refine wp_block ?_
                refine wp_seq ?_
                refine wp_region_lit ?_
                refine o_run hf (r_move hf rfl) rfl fun a hf => ?_
                refine o_run hf (r_move hf rfl) rfl fun a hf => ?_
                refine o_run hf (r_move hf rfl) rfl fun a hf => ?_
                obtain ⟨hg12920, hp⟩ := gd_some hp
                refine o_run hf (r_indexAddr (K := ek_Plan) hf el_29 rfl rfl (hR204.rd hw) hg12920) rfl fun a hf => ?_
                obtain ⟨_, ⟨vv12921, vv12923, rfl, hR12922, hR12924⟩, hrun12926⟩ := rs_loadHA (P := P) ty_26 hR204 hg12920 rfl (fun cs h => Plan_all h)
                refine o_run hf (hrun12926 _ _ _ _ _ _ _ _ _ _ _ _ hw hf rfl) rfl fun a hf => ?_
                obtain ⟨y12930, hy12929, hp⟩ := bind_some hp
                obtain ⟨y12927, y12928⟩ := y12930
                have hc12931 := pack_Bytes_ok hw hR188 hR12922 hR12924 hy12929
                refine o_call hf cb_18 rfl rfl hc12931 (fun v12933 w a hK12932 hf => ?_)
                obtain ⟨rfl, hw⟩ := hK12932
                refine o_run hf (r_move hf rfl) rfl fun a hf => ?_
                refine o_run hf (r_extract hf rfl rfl) rfl fun a hf => ?_
                refine o_run hf (r_extract hf rfl rfl) rfl fun a hf => ?_
                refine o_run hf (r_assign hf rfl) rfl fun a hf => ?_
                refine o_run hf (r_assign hf rfl) rfl fun a hf => ?_
                refine o_nil ?_
                refine c_then ?_
                refine wp_seq ?_
                obtain ⟨out13034, hp, hq13035⟩ := bind_some hp
                refine c_cut (fun a w => ∃ y13033 : Bool, y13033 = out13034 ∧ Ok E I2_202 (.row yv7497 3 1 m7498 cs7499 :: .row yv7492 3 1 m7493 cs7494 :: .blk b193 (.cells ⟨[rvv187, rvv189, Value.bool y182.ok_]⟩ 47 (0, 0)) :: F) w ∧ Fr 330 ([(3, Value.pointer (some ⟨b193, 0, none⟩)), (4, rvv187), (5, rvv203), (7, yv7492), (9, yv7497), (10, Value.int .i64 y7501), (129, Value.bool y13033)]) a) ?_ ?_
                · refine c_drawn mix [] (.rd 0 (.rd 1 (.rd 2 (.rd 3 (.rd 4 (.rd 5 (.rd 6 (.rd 7 (.rd 8 (.rd 9 (.rd 10 (.rd 11 (.rd 12 (.rd 13 (.rd 14 (.rd 15 (.rd 16 (.rd 17 (.rd 18 (.rd 19 (.rd 20 (.rd 21 (.rd 22 (.rd 23 (.rd 24 (.rd 25 (.rd 26 (.rd 27 (.rd 28 (.rd 29 (.rd 30 (.rd 31 (.rd 32 (.rd 33 (.rd 34 (.rd 35 (.rd 36 (.rd 37 (.rd 38 (.rd 39 (.rd 40 (.rd 41 (.rd 42 (.rd 43 (.rd 44 (.rd 45 (.rd 46 (.rd 47 (.rd 48 (.rd 49 (.rd 50 (.rd 51 .done)))))))))))))))))))))))))))))))))))))))))))))))))))) (by kernel_rfl) hw (fun w => Ok E I2_202 (.row yv7497 3 1 m7498 cs7499 :: .row yv7492 3 1 m7493 cs7494 :: .blk b193 (.cells ⟨[rvv187, rvv189, Value.bool y182.ok_]⟩ 47 (0, 0)) :: F) w) (fun w hw => ⟨hw.sub (List.Sublist.cons_cons _ (List.Sublist.cons_cons _ (List.Sublist.cons_cons _ (List.Sublist.refl _)))), ?_⟩)
                  refine t_rd rfl hf (fun w hw => r_move hf rfl) rfl fun a hf => ?_
                  refine t_rd rfl hf (fun w hw => r_not hf rfl) rfl fun a hf => ?_
                  refine t_rd rfl hf (fun w hw => r_move hf rfl) rfl fun a hf => ?_
                  refine g_split hf (g := 80) rfl (fun hb13037 hf => ?_) (fun hb13037 hf => ?_)
                  · replace hp := cond_t hb13037 hp
                    refine t_rdS rfl rfl hf rfl rfl rfl fun a hf => ?_
                    refine t_rdS rfl rfl hf rfl rfl rfl fun a hf => ?_
                    refine t_rd rfl hf (fun w hw => r_pickT hf rfl rfl) rfl fun a hf => ?_
                    refine t_rd rfl hf (fun w hw => r_move hf rfl) rfl fun a hf => ?_
                    refine t_rdS rfl rfl hf rfl rfl rfl fun a hf => ?_
                    refine t_rdS rfl rfl hf rfl rfl rfl fun a hf => ?_
                    refine t_rd rfl hf (fun w hw => r_pickT hf rfl rfl) rfl fun a hf => ?_
                    refine t_rd rfl hf (fun w hw => r_move hf rfl) rfl fun a hf => ?_
                    refine t_rdS rfl rfl hf rfl rfl rfl fun a hf => ?_
                    refine t_rdS rfl rfl hf rfl rfl rfl fun a hf => ?_
                    refine t_rdS rfl rfl hf rfl rfl rfl fun a hf => ?_
                    refine t_rdS rfl rfl hf rfl rfl rfl fun a hf => ?_
                    refine t_rdS rfl rfl hf rfl rfl rfl fun a hf => ?_
                    refine t_rdS rfl rfl hf rfl rfl rfl fun a hf => ?_
                    refine t_rdS rfl rfl hf rfl rfl rfl fun a hf => ?_
                    refine t_rd rfl hf (fun w hw => r_pickT hf rfl rfl) rfl fun a hf => ?_
                    refine t_rd rfl hf (fun w hw => r_move hf rfl) rfl fun a hf => ?_
                    refine t_rdS rfl rfl hf rfl rfl rfl fun a hf => ?_
                    refine t_rdS rfl rfl hf rfl rfl rfl fun a hf => ?_
                    refine t_rdS rfl rfl hf rfl rfl rfl fun a hf => ?_
                    refine t_rdS rfl rfl hf rfl rfl rfl fun a hf => ?_
                    refine t_rdS rfl rfl hf rfl rfl rfl fun a hf => ?_
                    refine t_rdS rfl rfl hf rfl rfl rfl fun a hf => ?_
                    refine t_rdS rfl rfl hf rfl rfl rfl fun a hf => ?_
                    refine t_rdS rfl rfl hf rfl rfl rfl fun a hf => ?_
                    refine t_rdS rfl rfl hf rfl rfl rfl fun a hf => ?_
                    refine t_rdS rfl rfl hf rfl rfl rfl fun a hf => ?_
                    refine t_rdS rfl rfl hf rfl rfl rfl fun a hf => ?_
                    refine t_rdS rfl rfl hf rfl rfl rfl fun a hf => ?_
                    refine t_rdS rfl rfl hf rfl rfl rfl fun a hf => ?_
                    refine t_rd rfl hf (fun w hw => r_pickT hf rfl rfl) rfl fun a hf => ?_
                    refine t_rd rfl hf (fun w hw => r_move hf rfl) rfl fun a hf => ?_
                    refine t_rdS rfl rfl hf rfl rfl rfl fun a hf => ?_
                    refine t_rdS rfl rfl hf rfl rfl rfl fun a hf => ?_
                    refine t_rdS rfl rfl hf rfl rfl rfl fun a hf => ?_
                    refine t_rdU rfl rfl hf rfl rfl fun a hf => ?_
                    refine t_rdU rfl rfl hf rfl rfl fun a hf => ?_
                    refine t_rdU rfl rfl hf rfl rfl fun a hf => ?_
                    refine t_rdU rfl rfl hf rfl rfl fun a hf => ?_
                    refine t_rdU rfl rfl hf rfl rfl fun a hf => ?_
                    refine t_rdU rfl rfl hf rfl rfl fun a hf => ?_
                    refine t_rdU rfl rfl hf rfl rfl fun a hf => ?_
                    refine t_rdU rfl rfl hf rfl rfl fun a hf => ?_
                    refine t_rdU rfl rfl hf rfl rfl fun a hf => ?_
                    refine t_rdU rfl rfl hf rfl rfl fun a hf => ?_
                    refine t_rdU rfl rfl hf rfl rfl fun a hf => ?_
                    refine t_rdU rfl rfl hf rfl rfl fun a hf => ?_
                    refine t_rdS rfl rfl hf rfl rfl rfl fun a hf => ?_
                    refine t_rd rfl hf (fun w hw => r_pickT hf rfl rfl) rfl fun a hf => ?_
                    refine t_done ?_
                    refine c_then ?_
                    have ho := out_inj hp
                    subst ho
                    exact ⟨true, rfl, hw, hf.to ⟨rfl, rfl, rfl, rfl, rfl, rfl, rfl, trivial⟩⟩
                  · replace hp := cond_f hb13037 hp
                    refine t_rdG rfl rfl hf rfl (fun w hw => r_move hf rfl) rfl fun a hf => ?_
                    refine t_rdG rfl rfl hf rfl (fun w hw => r_icmp hf rfl rfl rfl) rfl fun a hf => ?_
                    refine t_rd rfl hf (fun w hw => r_pickF hf rfl rfl) rfl fun a hf => ?_
                    refine t_rd rfl hf (fun w hw => r_move hf rfl) rfl fun a hf => ?_
                    refine g_split hf (g := 84) rfl (fun hb13038 hf => ?_) (fun hb13038 hf => ?_)
                    · replace hp := cond_t hb13038 hp
                      refine t_rdS rfl rfl hf rfl rfl rfl fun a hf => ?_
                      refine t_rdS rfl rfl hf rfl rfl rfl fun a hf => ?_
                      refine t_rd rfl hf (fun w hw => r_pickT hf rfl rfl) rfl fun a hf => ?_
                      refine t_rd rfl hf (fun w hw => r_move hf rfl) rfl fun a hf => ?_
                      refine t_rdS rfl rfl hf rfl rfl rfl fun a hf => ?_
                      refine t_rdS rfl rfl hf rfl rfl rfl fun a hf => ?_
                      refine t_rdS rfl rfl hf rfl rfl rfl fun a hf => ?_
                      refine t_rdS rfl rfl hf rfl rfl rfl fun a hf => ?_
                      refine t_rdS rfl rfl hf rfl rfl rfl fun a hf => ?_
                      refine t_rdS rfl rfl hf rfl rfl rfl fun a hf => ?_
                      refine t_rdS rfl rfl hf rfl rfl rfl fun a hf => ?_
                      refine t_rd rfl hf (fun w hw => r_pickT hf rfl rfl) rfl fun a hf => ?_
                      refine t_rd rfl hf (fun w hw => r_move hf rfl) rfl fun a hf => ?_
                      refine t_rdS rfl rfl hf rfl rfl rfl fun a hf => ?_
                      refine t_rdS rfl rfl hf rfl rfl rfl fun a hf => ?_
                      refine t_rdS rfl rfl hf rfl rfl rfl fun a hf => ?_
                      refine t_rdS rfl rfl hf rfl rfl rfl fun a hf => ?_
                      refine t_rdS rfl rfl hf rfl rfl rfl fun a hf => ?_
                      refine t_rdS rfl rfl hf rfl rfl rfl fun a hf => ?_
                      refine t_rdS rfl rfl hf rfl rfl rfl fun a hf => ?_
                      refine t_rdS rfl rfl hf rfl rfl rfl fun a hf => ?_
                      refine t_rdS rfl rfl hf rfl rfl rfl fun a hf => ?_
                      refine t_rdS rfl rfl hf rfl rfl rfl fun a hf => ?_
                      refine t_rdS rfl rfl hf rfl rfl rfl fun a hf => ?_
                      refine t_rdS rfl rfl hf rfl rfl rfl fun a hf => ?_
                      refine t_rdS rfl rfl hf rfl rfl rfl fun a hf => ?_
                      refine t_rd rfl hf (fun w hw => r_pickT hf rfl rfl) rfl fun a hf => ?_
                      refine t_rd rfl hf (fun w hw => r_move hf rfl) rfl fun a hf => ?_
                      refine t_rdS rfl rfl hf rfl rfl rfl fun a hf => ?_
                      refine t_rdS rfl rfl hf rfl rfl rfl fun a hf => ?_
                      refine t_rdS rfl rfl hf rfl rfl rfl fun a hf => ?_
                      refine t_rdU rfl rfl hf rfl rfl fun a hf => ?_
                      refine t_rdU rfl rfl hf rfl rfl fun a hf => ?_
                      refine t_rdU rfl rfl hf rfl rfl fun a hf => ?_
                      refine t_rdU rfl rfl hf rfl rfl fun a hf => ?_
                      refine t_rdU rfl rfl hf rfl rfl fun a hf => ?_
                      refine t_rdU rfl rfl hf rfl rfl fun a hf => ?_
                      refine t_rdU rfl rfl hf rfl rfl fun a hf => ?_
                      refine t_rdU rfl rfl hf rfl rfl fun a hf => ?_
                      refine t_rdU rfl rfl hf rfl rfl fun a hf => ?_
                      refine t_rdU rfl rfl hf rfl rfl fun a hf => ?_
                      refine t_rdU rfl rfl hf rfl rfl fun a hf => ?_
                      refine t_rdU rfl rfl hf rfl rfl fun a hf => ?_
                      refine t_rdS rfl rfl hf rfl rfl rfl fun a hf => ?_
                      refine t_rd rfl hf (fun w hw => r_pickT hf rfl rfl) rfl fun a hf => ?_
                      refine t_done ?_
                      refine c_then ?_
                      have ho := out_inj hp
                      subst ho
                      exact ⟨true, rfl, hw, hf.to ⟨rfl, rfl, rfl, rfl, rfl, rfl, rfl, trivial⟩⟩
                    · replace hp := cond_f hb13038 hp
                      refine t_rdG rfl rfl hf rfl (fun w hw => r_move hf rfl) rfl fun a hf => ?_
                      refine t_rdG rfl rfl hf rfl (fun w hw => r_icmp hf rfl rfl rfl) rfl fun a hf => ?_
                      refine t_rd rfl hf (fun w hw => r_pickF hf rfl rfl) rfl fun a hf => ?_
                      refine t_rd rfl hf (fun w hw => r_move hf rfl) rfl fun a hf => ?_
                      refine g_split hf (g := 88) rfl (fun hb13039 hf => ?_) (fun hb13039 hf => ?_)
                      · replace hp := cond_t hb13039 hp
                        refine t_rdS rfl rfl hf rfl rfl rfl fun a hf => ?_
                        refine t_rdS rfl rfl hf rfl rfl rfl fun a hf => ?_
                        refine t_rdS rfl rfl hf rfl rfl rfl fun a hf => ?_
                        refine t_rdS rfl rfl hf rfl rfl rfl fun a hf => ?_
                        refine t_rdS rfl rfl hf rfl rfl rfl fun a hf => ?_
                        refine t_rdS rfl rfl hf rfl rfl rfl fun a hf => ?_
                        refine t_rdS rfl rfl hf rfl rfl rfl fun a hf => ?_
                        refine t_rd rfl hf (fun w hw => r_pickT hf rfl rfl) rfl fun a hf => ?_
                        refine t_rd rfl hf (fun w hw => r_move hf rfl) rfl fun a hf => ?_
                        refine t_rdS rfl rfl hf rfl rfl rfl fun a hf => ?_
                        refine t_rdS rfl rfl hf rfl rfl rfl fun a hf => ?_
                        refine t_rdS rfl rfl hf rfl rfl rfl fun a hf => ?_
                        refine t_rdS rfl rfl hf rfl rfl rfl fun a hf => ?_
                        refine t_rdS rfl rfl hf rfl rfl rfl fun a hf => ?_
                        refine t_rdS rfl rfl hf rfl rfl rfl fun a hf => ?_
                        refine t_rdS rfl rfl hf rfl rfl rfl fun a hf => ?_
                        refine t_rdS rfl rfl hf rfl rfl rfl fun a hf => ?_
                        refine t_rdS rfl rfl hf rfl rfl rfl fun a hf => ?_
                        refine t_rdS rfl rfl hf rfl rfl rfl fun a hf => ?_
                        refine t_rdS rfl rfl hf rfl rfl rfl fun a hf => ?_
                        refine t_rdS rfl rfl hf rfl rfl rfl fun a hf => ?_
                        refine t_rdS rfl rfl hf rfl rfl rfl fun a hf => ?_
                        refine t_rd rfl hf (fun w hw => r_pickT hf rfl rfl) rfl fun a hf => ?_
                        refine t_rd rfl hf (fun w hw => r_move hf rfl) rfl fun a hf => ?_
                        refine t_rdS rfl rfl hf rfl rfl rfl fun a hf => ?_
                        refine t_rdS rfl rfl hf rfl rfl rfl fun a hf => ?_
                        refine t_rdS rfl rfl hf rfl rfl rfl fun a hf => ?_
                        refine t_rdU rfl rfl hf rfl rfl fun a hf => ?_
                        refine t_rdU rfl rfl hf rfl rfl fun a hf => ?_
                        refine t_rdU rfl rfl hf rfl rfl fun a hf => ?_
                        refine t_rdU rfl rfl hf rfl rfl fun a hf => ?_
                        refine t_rdU rfl rfl hf rfl rfl fun a hf => ?_
                        refine t_rdU rfl rfl hf rfl rfl fun a hf => ?_
                        refine t_rdU rfl rfl hf rfl rfl fun a hf => ?_
                        refine t_rdU rfl rfl hf rfl rfl fun a hf => ?_
                        refine t_rdU rfl rfl hf rfl rfl fun a hf => ?_
                        refine t_rdU rfl rfl hf rfl rfl fun a hf => ?_
                        refine t_rdU rfl rfl hf rfl rfl fun a hf => ?_
                        refine t_rdU rfl rfl hf rfl rfl fun a hf => ?_
                        refine t_rdS rfl rfl hf rfl rfl rfl fun a hf => ?_
                        refine t_rd rfl hf (fun w hw => r_pickT hf rfl rfl) rfl fun a hf => ?_
                        refine t_done ?_
                        refine c_then ?_
                        have ho := out_inj hp
                        subst ho
                        exact ⟨true, rfl, hw, hf.to ⟨rfl, rfl, rfl, rfl, rfl, rfl, rfl, trivial⟩⟩
                      · replace hp := cond_f hb13039 hp
                        refine t_rdG rfl rfl hf rfl (fun w hw => r_move hf rfl) rfl fun a hf => ?_
                        refine t_rdG rfl rfl hf rfl (fun w hw => r_move hf rfl) rfl fun a hf => ?_
                        obtain ⟨hg13040, hp⟩ := gd_some hp
                        refine t_rdG rfl rfl hf rfl (fun w hw => r_indexAddr (K := ek_Plan) hf el_29 rfl rfl (hR204.rd hw) hg13040) rfl fun a hf => ?_
                        refine t_rdG rfl rfl hf rfl (fun w hw => r_fieldAddrH hf rfl fd_26_2) rfl fun a hf => ?_
                        obtain ⟨v13041, hR13042, hrun13043⟩ := rs_loadHX (P := P) ty_24 hR204 hg13040 rfl (fun cs h => Plan_f2 h)
                        refine t_rdG rfl rfl hf rfl (fun w hw => hrun13043 _ _ _ _ _ _ _ _ _ _ _ _ hw hf rfl) rfl fun a hf => ?_
                        refine t_rdG rfl rfl hf rfl (fun w hw => r_lenL (K := (ekI .i64)) hf el_24 rfl (hR13042.rd hw)) rfl fun a hf => ?_
                        refine t_rdG rfl rfl hf rfl (fun w hw => r_icmp hf rfl rfl rfl) rfl fun a hf => ?_
                        refine t_rd rfl hf (fun w hw => r_pickF hf rfl rfl) rfl fun a hf => ?_
                        refine t_rd rfl hf (fun w hw => r_move hf rfl) rfl fun a hf => ?_
                        refine g_split hf (g := 97) rfl (fun hb13044 hf => ?_) (fun hb13044 hf => ?_)
                        · replace hp := cond_t hb13044 hp
                          refine t_rdS rfl rfl hf rfl rfl rfl fun a hf => ?_
                          refine t_rdS rfl rfl hf rfl rfl rfl fun a hf => ?_
                          refine t_rdS rfl rfl hf rfl rfl rfl fun a hf => ?_
                          refine t_rdS rfl rfl hf rfl rfl rfl fun a hf => ?_
                          refine t_rdS rfl rfl hf rfl rfl rfl fun a hf => ?_
                          refine t_rdS rfl rfl hf rfl rfl rfl fun a hf => ?_
                          refine t_rdS rfl rfl hf rfl rfl rfl fun a hf => ?_
                          refine t_rdS rfl rfl hf rfl rfl rfl fun a hf => ?_
                          refine t_rdS rfl rfl hf rfl rfl rfl fun a hf => ?_
                          refine t_rdS rfl rfl hf rfl rfl rfl fun a hf => ?_
                          refine t_rdS rfl rfl hf rfl rfl rfl fun a hf => ?_
                          refine t_rdS rfl rfl hf rfl rfl rfl fun a hf => ?_
                          refine t_rdS rfl rfl hf rfl rfl rfl fun a hf => ?_
                          refine t_rd rfl hf (fun w hw => r_pickT hf rfl rfl) rfl fun a hf => ?_
                          refine t_rd rfl hf (fun w hw => r_move hf rfl) rfl fun a hf => ?_
                          refine t_rdS rfl rfl hf rfl rfl rfl fun a hf => ?_
                          refine t_rdS rfl rfl hf rfl rfl rfl fun a hf => ?_
                          refine t_rdS rfl rfl hf rfl rfl rfl fun a hf => ?_
                          refine t_rdU rfl rfl hf rfl rfl fun a hf => ?_
                          refine t_rdU rfl rfl hf rfl rfl fun a hf => ?_
                          refine t_rdU rfl rfl hf rfl rfl fun a hf => ?_
                          refine t_rdU rfl rfl hf rfl rfl fun a hf => ?_
                          refine t_rdU rfl rfl hf rfl rfl fun a hf => ?_
                          refine t_rdU rfl rfl hf rfl rfl fun a hf => ?_
                          refine t_rdU rfl rfl hf rfl rfl fun a hf => ?_
                          refine t_rdU rfl rfl hf rfl rfl fun a hf => ?_
                          refine t_rdU rfl rfl hf rfl rfl fun a hf => ?_
                          refine t_rdU rfl rfl hf rfl rfl fun a hf => ?_
                          refine t_rdU rfl rfl hf rfl rfl fun a hf => ?_
                          refine t_rdU rfl rfl hf rfl rfl fun a hf => ?_
                          refine t_rdS rfl rfl hf rfl rfl rfl fun a hf => ?_
                          refine t_rd rfl hf (fun w hw => r_pickT hf rfl rfl) rfl fun a hf => ?_
                          refine t_done ?_
                          refine c_then ?_
                          have ho := out_inj hp
                          subst ho
                          exact ⟨true, rfl, hw, hf.to ⟨rfl, rfl, rfl, rfl, rfl, rfl, rfl, trivial⟩⟩
                        · replace hp := cond_f hb13044 hp
                          refine t_rdG rfl rfl hf rfl (fun w hw => r_move hf rfl) rfl fun a hf => ?_
                          refine t_rdG rfl rfl hf rfl (fun w hw => r_move hf rfl) rfl fun a hf => ?_
                          obtain ⟨hg13045, hp⟩ := gd_some hp
                          refine t_rdG rfl rfl hf rfl (fun w hw => r_indexAddr (K := ek_Plan) hf el_29 rfl rfl (hR204.rd hw) hg13045) rfl fun a hf => ?_
                          refine t_rdG rfl rfl hf rfl (fun w hw => r_fieldAddrH hf rfl fd_26_2) rfl fun a hf => ?_
                          obtain ⟨v13046, hR13047, hrun13048⟩ := rs_loadHX (P := P) ty_24 hR204 hg13045 rfl (fun cs h => Plan_f2 h)
                          refine t_rdG rfl rfl hf rfl (fun w hw => hrun13048 _ _ _ _ _ _ _ _ _ _ _ _ hw hf rfl) rfl fun a hf => ?_
                          obtain ⟨hg13049, hp⟩ := gd_some hp
                          refine t_rdG rfl rfl hf rfl (fun w hw => r_indexAddr (K := (ekI .i64)) hf el_24 rfl rfl (hR13047.rd hw) hg13049) rfl fun a hf => ?_
                          refine t_rdG rfl rfl hf rfl (fun w hw => r_loadH (K := (ekI .i64)) hf rfl ty_3 (hR13047.rd hw) hg13049 rfl (fun cs h => ekI_f0 h)) rfl fun a hf => ?_
                          refine t_rdG rfl rfl hf rfl (fun w hw => r_move hf rfl) rfl fun a hf => ?_
                          refine t_rdG rfl rfl hf rfl (fun w hw => r_move hf rfl) rfl fun a hf => ?_
                          obtain ⟨hg13050, hp⟩ := gd_some hp
                          refine t_rdG rfl rfl hf rfl (fun w hw => r_indexAddr (K := ek_Plan) hf el_29 rfl rfl (hR204.rd hw) hg13050) rfl fun a hf => ?_
                          refine t_rdG rfl rfl hf rfl (fun w hw => r_fieldAddrH hf rfl fd_26_1) rfl fun a hf => ?_
                          refine t_rdG rfl rfl hf rfl (fun w hw => r_loadH (K := ek_Plan) hf rfl ty_3 (hR204.rd hw) hg13050 rfl (fun cs h => Plan_f1 h)) rfl fun a hf => ?_
                          refine t_rdG rfl rfl hf rfl (fun w hw => r_icmp hf rfl rfl rfl) rfl fun a hf => ?_
                          refine t_rd rfl hf (fun w hw => r_pickF hf rfl rfl) rfl fun a hf => ?_
                          refine t_rd rfl hf (fun w hw => r_move hf rfl) rfl fun a hf => ?_
                          refine g_split hf (g := 112) rfl (fun hb13051 hf => ?_) (fun hb13051 hf => ?_)
                          · replace hp := cond_t hb13051 hp
                            refine t_rdS rfl rfl hf rfl rfl rfl fun a hf => ?_
                            refine t_rdS rfl rfl hf rfl rfl rfl fun a hf => ?_
                            refine t_rdS rfl rfl hf rfl rfl rfl fun a hf => ?_
                            refine t_rdU rfl rfl hf rfl rfl fun a hf => ?_
                            refine t_rdU rfl rfl hf rfl rfl fun a hf => ?_
                            refine t_rdU rfl rfl hf rfl rfl fun a hf => ?_
                            refine t_rdU rfl rfl hf rfl rfl fun a hf => ?_
                            refine t_rdU rfl rfl hf rfl rfl fun a hf => ?_
                            refine t_rdU rfl rfl hf rfl rfl fun a hf => ?_
                            refine t_rdU rfl rfl hf rfl rfl fun a hf => ?_
                            refine t_rdU rfl rfl hf rfl rfl fun a hf => ?_
                            refine t_rdU rfl rfl hf rfl rfl fun a hf => ?_
                            refine t_rdU rfl rfl hf rfl rfl fun a hf => ?_
                            refine t_rdU rfl rfl hf rfl rfl fun a hf => ?_
                            refine t_rdU rfl rfl hf rfl rfl fun a hf => ?_
                            refine t_rdS rfl rfl hf rfl rfl rfl fun a hf => ?_
                            refine t_rd rfl hf (fun w hw => r_pickT hf rfl rfl) rfl fun a hf => ?_
                            refine t_done ?_
                            refine c_then ?_
                            have ho := out_inj hp
                            subst ho
                            exact ⟨true, rfl, hw, hf.to ⟨rfl, rfl, rfl, rfl, rfl, rfl, rfl, trivial⟩⟩
                          · replace hp := cond_f hb13051 hp
                            refine t_rdG rfl rfl hf rfl (fun w hw => r_move hf rfl) rfl fun a hf => ?_
                            refine t_rdG rfl rfl hf rfl (fun w hw => r_icmp hf rfl rfl rfl) rfl fun a hf => ?_
                            refine t_rdG rfl rfl hf rfl (fun w hw => r_move hf rfl) rfl fun a hf => ?_
                            refine g_split hf (g := 115) rfl (fun hb13052 hf => ?_) (fun hb13052 hf => ?_)
                            · replace hp := cond_t hb13052 hp
                              refine t_rdG rfl rfl hf rfl (fun w hw => r_move hf rfl) rfl fun a hf => ?_
                              refine t_rdG rfl rfl hf rfl (fun w hw => r_move hf rfl) rfl fun a hf => ?_
                              obtain ⟨hg13053, hp⟩ := gd_some hp
                              refine t_rdG rfl rfl hf rfl (fun w hw => r_indexAddr (K := ek_Plan) hf el_29 rfl rfl (hR204.rd hw) hg13053) rfl fun a hf => ?_
                              refine t_rdG rfl rfl hf rfl (fun w hw => r_fieldAddrH hf rfl fd_26_1) rfl fun a hf => ?_
                              refine t_rdG rfl rfl hf rfl (fun w hw => r_loadH (K := ek_Plan) hf rfl ty_3 (hR204.rd hw) hg13053 rfl (fun cs h => Plan_f1 h)) rfl fun a hf => ?_
                              refine t_rdG rfl rfl hf rfl (fun w hw => r_move hf rfl) rfl fun a hf => ?_
                              refine t_rdG rfl rfl hf rfl (fun w hw => r_move hf rfl) rfl fun a hf => ?_
                              refine t_rdG rfl rfl hf rfl (fun w hw => r_sub hf rfl rfl) rfl fun a hf => ?_
                              obtain ⟨hg13054, hp⟩ := gd_some hp
                              refine t_rdG rfl rfl hf rfl (fun w hw => r_indexAddr (K := ek_Plan) hf el_29 rfl rfl (hR204.rd hw) hg13054) rfl fun a hf => ?_
                              refine t_rdG rfl rfl hf rfl (fun w hw => r_fieldAddrH hf rfl fd_26_1) rfl fun a hf => ?_
                              refine t_rdG rfl rfl hf rfl (fun w hw => r_loadH (K := ek_Plan) hf rfl ty_3 (hR204.rd hw) hg13054 rfl (fun cs h => Plan_f1 h)) rfl fun a hf => ?_
                              refine t_rdG rfl rfl hf rfl (fun w hw => r_icmp hf rfl rfl rfl) rfl fun a hf => ?_
                              refine t_rdG rfl rfl hf rfl (fun w hw => r_pickT hf rfl rfl) rfl fun a hf => ?_
                              refine t_rd rfl hf (fun w hw => r_pickF hf rfl rfl) rfl fun a hf => ?_
                              refine t_done ?_
                              refine c_then ?_
                              have ho := out_inj hp
                              subst ho
                              exact ⟨(decide (((gt y197 y7501).top_) ≤ ((gt y197 (w64 (y7501 - 1))).top_))), rfl, hw, hf.to ⟨rfl, rfl, rfl, rfl, rfl, rfl, rfl, trivial⟩⟩
                            · replace hp := cond_f hb13052 hp
                              refine t_rdS rfl rfl hf rfl rfl rfl fun a hf => ?_
                              refine t_rdS rfl rfl hf rfl rfl rfl fun a hf => ?_
                              refine t_rdS rfl rfl hf rfl rfl rfl fun a hf => ?_
                              refine t_rdS rfl rfl hf rfl rfl rfl fun a hf => ?_
                              refine t_rdS rfl rfl hf rfl rfl rfl fun a hf => ?_
                              refine t_rdS rfl rfl hf rfl rfl rfl fun a hf => ?_
                              refine t_rdS rfl rfl hf rfl rfl rfl fun a hf => ?_
                              refine t_rdS rfl rfl hf rfl rfl rfl fun a hf => ?_
                              refine t_rdS rfl rfl hf rfl rfl rfl fun a hf => ?_
                              refine t_rdS rfl rfl hf rfl rfl rfl fun a hf => ?_
                              refine t_rdS rfl rfl hf rfl rfl rfl fun a hf => ?_
                              refine t_rdS rfl rfl hf rfl rfl rfl fun a hf => ?_
                              refine t_rdG rfl rfl hf rfl (fun w hw => r_pickF hf rfl rfl) rfl fun a hf => ?_
                              refine t_rd rfl hf (fun w hw => r_pickF hf rfl rfl) rfl fun a hf => ?_
                              refine t_done ?_
                              refine c_then ?_
                              have ho := out_inj hp
                              subst ho
                              exact ⟨false, rfl, hw, hf.to ⟨rfl, rfl, rfl, rfl, rfl, rfl, rfl, trivial⟩⟩
                · intro a w hM
                  obtain ⟨y13033, rfl, hw, hf⟩ := hM
                  replace hp := hq13035
                  refine c_cond hf rfl (fun hb13055 => ?_) (fun hb13055 => ?_)
                  · replace hp := cond_t hb13055 hp
                    refine wp_seq ?_
                    refine wp_region_lit ?_
                    refine o_run hf (r_assign hf rfl) rfl fun a hf => ?_
                    refine o_nil ?_
                    refine c_then ?_
                    refine wp_ret ?_
                    refine c_thenR ?_
                    refine c_blockR ?_
                    refine c_thenR ?_
                    refine c_thenR ?_
                    refine c_blockR ?_
                    refine c_thenR ?_
                    have ho := out_inj hp
                    subst ho
                    replace hp := hq11116
                    refine c_thenR ?_
                    replace hw : Ok E I2_202 (F) w := hw.sub (List.Sublist.cons _ (List.Sublist.cons _ (List.Sublist.cons _ (List.Sublist.refl _))))
                    have ho := out_inj hp
                    subst ho
                    exact b_ret1 hf Go.Proofs.Try.results4 rfl ⟨_, rfl, ⟨rfl, (hw.back (IH.le_trans hle192 hle206) (List.Sublist.refl _))⟩⟩
                  · replace hp := cond_f hb13055 hp
                    refine wp_skip ?_
                    refine c_then ?_
                    refine wp_seq ?_
                    refine wp_seq ?_
                    refine wp_region_lit ?_
                    refine o_run hf (r_assign hf rfl) rfl fun a hf => ?_
                    refine o_nil ?_
                    refine c_then ?_
                    obtain ⟨out13298, hp, hq13299⟩ := bind_some hp
                    refine c_cutX (fun a w => ∃ y13293 : List Int, ∃ yv13294 : Value, ∃ m13295 : Nat, ∃ cs13296 : List Value, (.inl y13293) = out13298 ∧ Ok E I2_202 (.row yv7497 3 1 m7498 cs7499 :: .row yv13294 3 1 m13295 cs13296 :: .blk b193 (.cells ⟨[rvv187, rvv189, Value.bool y182.ok_]⟩ 47 (0, 0)) :: F) w ∧ Fr 330 ([(3, Value.pointer (some ⟨b193, 0, none⟩)), (4, rvv187), (5, rvv203), (7, yv13294), (9, yv7497), (10, Value.int .i64 y7501)]) a ∧ RowR (ekI .i64) I2_202 cs13296 y13293) ?_ ?_
                    · refine wp_block ?_
                      refine c_loop ?_
                      refine c_fuel (law19_PackParts.l2 y182 y197 y7501) out13298 (fun (y13212, y13217) a w => ∃ yv13213 : Value, ∃ m13214 : Nat, ∃ cs13215 : List Value, Ok E I2_202 (.row yv7497 3 1 m7498 cs7499 :: .row yv13213 3 1 m13214 cs13215 :: .blk b193 (.cells ⟨[rvv187, rvv189, Value.bool y182.ok_]⟩ 47 (0, 0)) :: F) w ∧ Fr 330 ([(3, Value.pointer (some ⟨b193, 0, none⟩)), (4, rvv187), (5, rvv203), (7, yv13213), (9, yv7497), (10, Value.int .i64 y7501), (13, Value.int .i64 y13217)]) a ∧ RowR (ekI .i64) I2_202 cs13215 y13212) (fun _ => rfl) ?_ BIG (y7491, 0) _ _ ⟨yv7492, m7493, cs7494, hw, hf.to ⟨rfl, rfl, rfl, rfl, rfl, rfl, rfl, trivial⟩, hRR7495⟩ hp
                      intro k st a w hI hp ih
                      obtain ⟨y13212, y13217⟩ := st
                      obtain ⟨yv13213, m13214, cs13215, hw, hf, hRR13216⟩ := hI
                      rw [law19_PackParts.l2] at hp
                      refine wp_seq ?_
                      refine wp_seq ?_
                      refine wp_region_lit ?_
                      refine o_run hf (r_move hf rfl) rfl fun a hf => ?_
                      refine o_run hf (r_move hf rfl) rfl fun a hf => ?_
                      refine o_run hf (r_move hf rfl) rfl fun a hf => ?_
                      obtain ⟨hg13301, hp⟩ := gd_some hp
                      refine o_run hf (r_indexAddr (K := ek_Plan) hf el_29 rfl rfl (hR204.rd hw) hg13301) rfl fun a hf => ?_
                      refine o_run hf (r_fieldAddrH hf rfl fd_26_2) rfl fun a hf => ?_
                      obtain ⟨v13302, hR13303, hrun13304⟩ := rs_loadHX (P := P) ty_24 hR204 hg13301 rfl (fun cs h => Plan_f2 h)
                      refine o_run hf (hrun13304 _ _ _ _ _ _ _ _ _ _ _ _ hw hf rfl) rfl fun a hf => ?_
                      refine o_run hf (r_lenL (K := (ekI .i64)) hf el_24 rfl (hR13303.rd hw)) rfl fun a hf => ?_
                      refine o_run hf (r_icmp hf rfl rfl rfl) rfl fun a hf => ?_
                      refine o_nil ?_
                      refine c_then ?_
                      refine c_cond hf rfl (fun hb13305 => ?_) (fun hb13305 => ?_)
                      · replace hp := cond_t hb13305 hp
                        refine wp_skip ?_
                        refine c_then ?_
                        refine wp_seq ?_
                        refine wp_block ?_
                        refine wp_seq ?_
                        refine wp_region_lit ?_
                        refine o_run hf (r_move hf rfl) rfl fun a hf => ?_
                        refine o_run hf (r_move hf rfl) rfl fun a hf => ?_
                        obtain ⟨hg13341, hp⟩ := gd_some hp
                        refine o_run hf (r_indexAddr (K := ek_Plan) hf el_29 rfl rfl (hR204.rd hw) hg13341) rfl fun a hf => ?_
                        refine o_run hf (r_fieldAddrH hf rfl fd_26_2) rfl fun a hf => ?_
                        obtain ⟨v13342, hR13343, hrun13344⟩ := rs_loadHX (P := P) ty_24 hR204 hg13341 rfl (fun cs h => Plan_f2 h)
                        refine o_run hf (hrun13344 _ _ _ _ _ _ _ _ _ _ _ _ hw hf rfl) rfl fun a hf => ?_
                        refine o_run hf (r_move hf rfl) rfl fun a hf => ?_
                        obtain ⟨hg13345, hp⟩ := gd_some hp
                        refine o_run hf (r_indexAddr (K := (ekI .i64)) hf el_24 rfl rfl (hR13343.rd hw) hg13345) rfl fun a hf => ?_
                        refine o_run hf (r_loadH (K := (ekI .i64)) hf rfl ty_3 (hR13343.rd hw) hg13345 rfl (fun cs h => ekI_f0 h)) rfl fun a hf => ?_
                        refine o_run hf (r_assign hf rfl) rfl fun a hf => ?_
                        refine o_nil ?_
                        refine c_then ?_
                        refine wp_seq ?_
                        obtain ⟨out13366, hp, hq13367⟩ := bind_some hp
                        refine c_cut (fun a w => ∃ y13365 : Bool, y13365 = out13366 ∧ Ok E I2_202 (.row yv7497 3 1 m7498 cs7499 :: .row yv13213 3 1 m13214 cs13215 :: .blk b193 (.cells ⟨[rvv187, rvv189, Value.bool y182.ok_]⟩ 47 (0, 0)) :: F) w ∧ Fr 330 ([(3, Value.pointer (some ⟨b193, 0, none⟩)), (4, rvv187), (5, rvv203), (7, yv13213), (9, yv7497), (10, Value.int .i64 y7501), (13, Value.int .i64 y13217), (14, Value.int .i64 (gt ((gt y197 y7501).nodes_) y13217)), (162, Value.bool y13365)]) a) ?_ ?_
                        · refine wp_region_lit ?_
                          refine o_run hf (r_move hf rfl) rfl fun a hf => ?_
                          refine o_run hf (r_icmp hf rfl rfl rfl) rfl fun a hf => ?_
                          refine o_run hf (r_move hf rfl) rfl fun a hf => ?_
                          refine g_split hf (g := 150) rfl (fun hb13368 hf => ?_) (fun hb13368 hf => ?_)
                          · replace hp := cond_t hb13368 hp
                            refine o_skip hf (g := 150) rfl rfl rfl rfl rfl rfl fun a hf => ?_
                            refine o_skip hf (g := 150) rfl rfl rfl rfl rfl rfl fun a hf => ?_
                            refine o_skip hf (g := 150) rfl rfl rfl rfl rfl rfl fun a hf => ?_
                            refine o_skip hf (g := 150) rfl rfl rfl rfl rfl rfl fun a hf => ?_
                            refine o_run hf (r_pickT hf rfl rfl) rfl fun a hf => ?_
                            refine o_run hf (r_move hf rfl) rfl fun a hf => ?_
                            refine o_skip hf (g := 156) rfl rfl rfl rfl rfl rfl fun a hf => ?_
                            refine o_skip hf (g := 156) rfl rfl rfl rfl rfl rfl fun a hf => ?_
                            refine o_skip hf (g := 156) rfl rfl rfl rfl rfl rfl fun a hf => ?_
                            refine o_skip hf (g := 156) rfl rfl rfl rfl rfl rfl fun a hf => ?_
                            refine o_skip hf (g := 156) rfl rfl rfl rfl rfl rfl fun a hf => ?_
                            refine o_run hf (r_pickT hf rfl rfl) rfl fun a hf => ?_
                            refine o_nil ?_
                            refine c_then ?_
                            have ho := out_inj hp
                            subst ho
                            exact ⟨true, rfl, hw, hf.to ⟨rfl, rfl, rfl, rfl, rfl, rfl, rfl, rfl, rfl, trivial⟩⟩
                          · replace hp := cond_f hb13368 hp
                            refine o_want hf (g := 150) rfl rfl ?_
                            refine o_run hf (r_move hf rfl) rfl fun a hf => ?_
                            refine o_want hf (g := 150) rfl rfl ?_
                            refine o_run hf (r_move hf rfl) rfl fun a hf => ?_
                            refine o_want hf (g := 150) rfl rfl ?_
                            refine o_run hf (r_lenL (K := ek_Node) hf el_23 rfl (hR188.rd hw)) rfl fun a hf => ?_
                            refine o_want hf (g := 150) rfl rfl ?_
                            refine o_run hf (r_icmp hf rfl rfl rfl) rfl fun a hf => ?_
                            refine o_run hf (r_pickF hf rfl rfl) rfl fun a hf => ?_
                            refine o_run hf (r_move hf rfl) rfl fun a hf => ?_
                            refine g_split hf (g := 156) rfl (fun hb13369 hf => ?_) (fun hb13369 hf => ?_)
                            · replace hp := cond_t hb13369 hp
                              refine o_skip hf (g := 156) rfl rfl rfl rfl rfl rfl fun a hf => ?_
                              refine o_skip hf (g := 156) rfl rfl rfl rfl rfl rfl fun a hf => ?_
                              refine o_skip hf (g := 156) rfl rfl rfl rfl rfl rfl fun a hf => ?_
                              refine o_skip hf (g := 156) rfl rfl rfl rfl rfl rfl fun a hf => ?_
                              refine o_skip hf (g := 156) rfl rfl rfl rfl rfl rfl fun a hf => ?_
                              refine o_run hf (r_pickT hf rfl rfl) rfl fun a hf => ?_
                              refine o_nil ?_
                              refine c_then ?_
                              have ho := out_inj hp
                              subst ho
                              exact ⟨true, rfl, hw, hf.to ⟨rfl, rfl, rfl, rfl, rfl, rfl, rfl, rfl, rfl, trivial⟩⟩
                            · replace hp := cond_f hb13369 hp
                              refine o_want hf (g := 156) rfl rfl ?_
                              refine o_run hf (r_move hf rfl) rfl fun a hf => ?_
                              refine o_want hf (g := 156) rfl rfl ?_
                              refine o_run hf (r_move hf rfl) rfl fun a hf => ?_
                              obtain ⟨hg13370, hp⟩ := gd_some hp
                              refine o_want hf (g := 156) rfl rfl ?_
                              refine o_run hf (r_indexAddr (K := (ekI .i64)) hf el_24 rfl rfl (row_rd (K := (ekI .i64)) hw (i := 1) rfl hRR13216) hg13370) rfl fun a hf => ?_
                              refine o_want hf (g := 156) rfl rfl ?_
                              refine o_run hf (r_loadH (K := (ekI .i64)) hf rfl ty_3 (row_rd (K := (ekI .i64)) hw (i := 1) rfl hRR13216) hg13370 rfl (fun cs h => ekI_f0 h)) rfl fun a hf => ?_
                              refine o_want hf (g := 156) rfl rfl ?_
                              refine o_run hf (r_icmp hf rfl rfl rfl) rfl fun a hf => ?_
                              refine o_run hf (r_pickF hf rfl rfl) rfl fun a hf => ?_
                              refine o_nil ?_
                              refine c_then ?_
                              have ho := out_inj hp
                              subst ho
                              exact ⟨(decide ((gt y13212 (gt ((gt y197 y7501).nodes_) y13217)) ≥ 0)), rfl, hw, hf.to ⟨rfl, rfl, rfl, rfl, rfl, rfl, rfl, rfl, rfl, trivial⟩⟩
                        · intro a w hM
                          obtain ⟨y13365, rfl, hw, hf⟩ := hM
                          replace hp := hq13367
                          refine c_cond hf rfl (fun hb13371 => ?_) (fun hb13371 => ?_)
                          · replace hp := cond_t hb13371 hp
                            refine wp_seq ?_
                            refine wp_region_lit ?_
                            refine o_run hf (r_assign hf rfl) rfl fun a hf => ?_
                            refine o_nil ?_
                            refine c_then ?_
                            refine wp_ret ?_
                            refine c_thenR ?_
                            refine c_blockR ?_
                            refine c_thenR ?_
                            refine c_thenR ?_
                            refine c_blockR ?_
                            refine c_thenR ?_
                            have ho := out_inj hp
                            subst ho
                            replace hp := hq13299
                            refine c_thenR ?_
                            refine c_blockR ?_
                            refine c_thenR ?_
                            refine c_thenR ?_
                            refine c_blockR ?_
                            refine c_thenR ?_
                            have ho := out_inj hp
                            subst ho
                            replace hp := hq11116
                            refine c_thenR ?_
                            replace hw : Ok E I2_202 (F) w := hw.sub (List.Sublist.cons _ (List.Sublist.cons _ (List.Sublist.cons _ (List.Sublist.refl _))))
                            have ho := out_inj hp
                            subst ho
                            exact b_ret1 hf Go.Proofs.Try.results4 rfl ⟨_, rfl, ⟨rfl, (hw.back (IH.le_trans hle192 hle206) (List.Sublist.refl _))⟩⟩
                          · replace hp := cond_f hb13371 hp
                            refine wp_skip ?_
                            refine c_then ?_
                            refine wp_region_lit ?_
                            refine o_run hf (r_move hf rfl) rfl fun a hf => ?_
                            refine o_run hf (r_move hf rfl) rfl fun a hf => ?_
                            refine o_run hf (r_move hf rfl) rfl fun a hf => ?_
                            obtain ⟨hg13372, hp⟩ := gd_some hp
                            refine o_run hf (r_indexAddr (K := (ekI .i64)) hf el_24 rfl rfl (row_rd (K := (ekI .i64)) hw (i := 1) rfl hRR13216) hg13372) rfl fun a hf => ?_
                            obtain ⟨w, cs13374, hrun13373, hw, hRR13375⟩ := e_storeH (P := P) (K := (ekI .i64)) hw hf (x := .tmp 166) (y := .tmp 165) rfl rfl ty_3 1 rfl hRR13216 hg13372 rfl (vs := [Value.int .i64 y7501]) (one_cells rfl) rfl (ones_cons rfl ones_nil) (Nat.le_of_eq (by rfl)) (x' := y7501) (whole_store rfl)
                            replace hw : Ok E I2_202 (.row yv7497 3 1 m7498 cs7499 :: .row yv13213 3 1 m13214 cs13374 :: .blk b193 (.cells ⟨[rvv187, rvv189, Value.bool y182.ok_]⟩ 47 (0, 0)) :: F) w := hw
                            refine o_effU (hrun13373 ..) ?_
                            refine o_nil ?_
                            refine c_blockN ?_
                            refine c_then ?_
                            refine wp_region_lit ?_
                            refine o_run hf (r_move hf rfl) rfl fun a hf => ?_
                            refine o_run hf (r_add hf rfl rfl) rfl fun a hf => ?_
                            refine o_run hf (r_assign hf rfl) rfl fun a hf => ?_
                            refine o_nil ?_
                            refine c_then ?_
                            exact ih (y13212.set (gt ((gt y197 y7501).nodes_) y13217).toNat y7501, w64 (y13217 + 1)) _ _ ⟨yv13213, m13214, cs13374, hw, hf.to ⟨rfl, rfl, rfl, rfl, rfl, rfl, rfl, trivial⟩, hRR13375⟩ hp
                      · replace hp := cond_f hb13305 hp
                        refine wp_exit ?_
                        refine c_thenE ?_
                        refine c_thenE ?_
                        refine c_exit ?_
                        refine c_then ?_
                        have ho := out_inj hp
                        subst ho
                        exact ⟨y13212, yv13213, m13214, cs13215, rfl, hw, hf.to ⟨rfl, rfl, rfl, rfl, rfl, rfl, trivial⟩, hRR13216⟩
                    · intro a w hM
                      obtain ⟨y13293, yv13294, m13295, cs13296, rfl, hw, hf, hRR13297⟩ := hM
                      replace hp := hq13299
                      refine c_then ?_
                      refine wp_seq ?_
                      refine wp_seq ?_
                      refine c_drawn mix [] (.rd 0 (.rd 1 (.rd 2 (.rd 3 (.rd 4 (.rd 5 (.rd 6 (.rd 7 (.rd 8 (.rd 9 (.rd 10 (.rd 11 (.rd 12 (.rd 13 (.rd 14 .done))))))))))))))) (by kernel_rfl) hw (fun w => Ok E I2_202 (.row yv7497 3 1 m7498 cs7499 :: .row yv13294 3 1 m13295 cs13296 :: .blk b193 (.cells ⟨[rvv187, rvv189, Value.bool y182.ok_]⟩ 47 (0, 0)) :: F) w) (fun w hw => ⟨hw.sub (List.Sublist.cons_cons _ (List.Sublist.cons_cons _ (List.Sublist.cons_cons _ (List.Sublist.refl _)))), ?_⟩)
                      refine t_rd rfl hf (fun w hw => r_move hf rfl) rfl fun a hf => ?_
                      refine t_rd rfl hf (fun w hw => r_move hf rfl) rfl fun a hf => ?_
                      obtain ⟨hg13378, hp⟩ := gd_some hp
                      refine t_rd rfl hf (fun w hw => r_indexAddr (K := ek_Plan) hf el_29 rfl rfl (hR204.rd hw) hg13378) rfl fun a hf => ?_
                      refine t_rd rfl hf (fun w hw => r_fieldAddrH hf rfl fd_26_0) rfl fun a hf => ?_
                      refine t_rd rfl hf (fun w hw => r_loadH (K := ek_Plan) hf rfl ty_9 (hR204.rd hw) hg13378 rfl (fun cs h => Plan_f0 h)) rfl fun a hf => ?_
                      refine t_rd rfl hf (fun w hw => r_fieldAddr hf rfl fd_47_1) rfl fun a hf => ?_
                      refine t_rd rfl hf (fun w hw => r_load hw hf rfl ty_45 2 rfl rfl) rfl fun a hf => ?_
                      refine t_rd rfl hf (fun w hw => r_move hf rfl) rfl fun a hf => ?_
                      refine t_rd rfl hf (fun w hw => r_move hf rfl) rfl fun a hf => ?_
                      obtain ⟨hg13379, hp⟩ := gd_some hp
                      refine t_rd rfl hf (fun w hw => r_indexAddr (K := ek_Plan) hf el_29 rfl rfl (hR204.rd hw) hg13379) rfl fun a hf => ?_
                      refine t_rd rfl hf (fun w hw => r_fieldAddrH hf rfl fd_26_1) rfl fun a hf => ?_
                      refine t_rd rfl hf (fun w hw => r_loadH (K := ek_Plan) hf rfl ty_3 (hR204.rd hw) hg13379 rfl (fun cs h => Plan_f1 h)) rfl fun a hf => ?_
                      obtain ⟨hg13380, hp⟩ := gd_some hp
                      refine t_rd rfl hf (fun w hw => r_indexAddr (K := ekS) hf el_45 rfl rfl (hR190.rd hw) hg13380) rfl fun a hf => ?_
                      refine t_rd rfl hf (fun w hw => r_loadH (K := ekS) hf rfl ty_9 (hR190.rd hw) hg13380 rfl (fun cs h => ekS_f0 h)) rfl fun a hf => ?_
                      refine t_rd rfl hf (fun w hw => r_scmp hf rfl rfl rfl) rfl fun a hf => ?_
                      refine t_done ?_
                      refine c_then ?_
                      refine c_cond hf rfl (fun hb13381 => ?_) (fun hb13381 => ?_)
                      · replace hp := cond_t hb13381 hp
                        refine wp_seq ?_
                        refine wp_region_lit ?_
                        refine o_run hf (r_assign hf rfl) rfl fun a hf => ?_
                        refine o_nil ?_
                        refine c_then ?_
                        refine wp_ret ?_
                        refine c_thenR ?_
                        refine c_blockR ?_
                        refine c_thenR ?_
                        refine c_thenR ?_
                        refine c_blockR ?_
                        refine c_thenR ?_
                        have ho := out_inj hp
                        subst ho
                        replace hp := hq11116
                        refine c_thenR ?_
                        replace hw : Ok E I2_202 (F) w := hw.sub (List.Sublist.cons _ (List.Sublist.cons _ (List.Sublist.cons _ (List.Sublist.refl _))))
                        have ho := out_inj hp
                        subst ho
                        exact b_ret1 hf Go.Proofs.Try.results4 rfl ⟨_, rfl, ⟨rfl, (hw.back (IH.le_trans hle192 hle206) (List.Sublist.refl _))⟩⟩
                      · replace hp := cond_f hb13381 hp
                        refine wp_skip ?_
                        refine c_then ?_
                        refine wp_seq ?_
                        refine wp_region_lit ?_
                        refine o_run hf (r_assign hf rfl) rfl fun a hf => ?_
                        refine o_nil ?_
                        refine c_then ?_
                        obtain ⟨out14386, hp, hq14387⟩ := bind_some hp
                        refine c_cutX (fun a w => ∃ y14381 : List Int, ∃ yv14382 : Value, ∃ m14383 : Nat, ∃ cs14384 : List Value, (.inl y14381) = out14386 ∧ Ok E I2_202 (.row yv14382 3 1 m14383 cs14384 :: .row yv13294 3 1 m13295 cs13296 :: .blk b193 (.cells ⟨[rvv187, rvv189, Value.bool y182.ok_]⟩ 47 (0, 0)) :: F) w ∧ Fr 330 ([(3, Value.pointer (some ⟨b193, 0, none⟩)), (4, rvv187), (5, rvv203), (7, yv13294), (9, yv14382), (10, Value.int .i64 y7501)]) a ∧ RowR (ekI .i64) I2_202 cs14384 y14381) ?_ ?_
                        · refine wp_block ?_
                          refine c_loop ?_
                          refine c_fuel (law19_PackParts.l3 y197 y7501) out14386 (fun (y14046, y14051) a w => ∃ yv14047 : Value, ∃ m14048 : Nat, ∃ cs14049 : List Value, Ok E I2_202 (.row yv14047 3 1 m14048 cs14049 :: .row yv13294 3 1 m13295 cs13296 :: .blk b193 (.cells ⟨[rvv187, rvv189, Value.bool y182.ok_]⟩ 47 (0, 0)) :: F) w ∧ Fr 330 ([(3, Value.pointer (some ⟨b193, 0, none⟩)), (4, rvv187), (5, rvv203), (7, yv13294), (9, yv14047), (10, Value.int .i64 y7501), (15, Value.int .i64 y14051)]) a ∧ RowR (ekI .i64) I2_202 cs14049 y14046) (fun _ => rfl) ?_ BIG (y7496, 0) _ _ ⟨yv7497, m7498, cs7499, hw, hf.to ⟨rfl, rfl, rfl, rfl, rfl, rfl, rfl, trivial⟩, hRR7500⟩ hp
                          intro k st a w hI hp ih
                          obtain ⟨y14046, y14051⟩ := st
                          obtain ⟨yv14047, m14048, cs14049, hw, hf, hRR14050⟩ := hI
                          rw [law19_PackParts.l3] at hp
                          refine wp_seq ?_
                          refine wp_seq ?_
                          refine wp_region_lit ?_
                          refine o_run hf (r_move hf rfl) rfl fun a hf => ?_
                          refine o_run hf (r_move hf rfl) rfl fun a hf => ?_
                          refine o_run hf (r_move hf rfl) rfl fun a hf => ?_
                          obtain ⟨hg14389, hp⟩ := gd_some hp
                          refine o_run hf (r_indexAddr (K := ek_Plan) hf el_29 rfl rfl (hR204.rd hw) hg14389) rfl fun a hf => ?_
                          refine o_run hf (r_fieldAddrH hf rfl fd_26_3) rfl fun a hf => ?_
                          obtain ⟨v14390, hR14391, hrun14392⟩ := rs_loadHX (P := P) ty_24 hR204 hg14389 rfl (fun cs h => Plan_f3 h)
                          refine o_run hf (hrun14392 _ _ _ _ _ _ _ _ _ _ _ _ hw hf rfl) rfl fun a hf => ?_
                          refine o_run hf (r_lenL (K := (ekI .i64)) hf el_24 rfl (hR14391.rd hw)) rfl fun a hf => ?_
                          refine o_run hf (r_icmp hf rfl rfl rfl) rfl fun a hf => ?_
                          refine o_nil ?_
                          refine c_then ?_
                          refine c_cond hf rfl (fun hb14393 => ?_) (fun hb14393 => ?_)
                          · replace hp := cond_t hb14393 hp
                            refine wp_skip ?_
                            refine c_then ?_
                            refine wp_seq ?_
                            refine wp_block ?_
                            refine wp_seq ?_
                            obtain ⟨out14681, hp, hq14682⟩ := bind_some hp
                            refine c_cut (fun a w => ∃ y14680 : Bool, y14680 = out14681 ∧ Ok E I2_202 (.row yv14047 3 1 m14048 cs14049 :: .row yv13294 3 1 m13295 cs13296 :: .blk b193 (.cells ⟨[rvv187, rvv189, Value.bool y182.ok_]⟩ 47 (0, 0)) :: F) w ∧ Fr 330 ([(3, Value.pointer (some ⟨b193, 0, none⟩)), (4, rvv187), (5, rvv203), (7, yv13294), (9, yv14047), (10, Value.int .i64 y7501), (15, Value.int .i64 y14051), (238, Value.bool y14680)]) a) ?_ ?_
                            · refine c_drawn mix [] (.rd 0 (.rd 1 (.rd 2 (.rd 3 (.rd 4 (.rd 5 (.rd 6 (.rd 7 (.rd 8 (.rd 9 (.rd 10 (.rd 11 (.rd 12 (.rd 13 (.rd 14 (.rd 15 (.rd 16 (.rd 17 (.rd 18 (.rd 19 (.rd 20 (.rd 21 (.rd 22 (.rd 23 (.rd 24 (.rd 25 (.rd 26 (.rd 27 (.rd 28 (.rd 29 (.rd 30 (.rd 31 (.rd 32 (.rd 33 (.rd 34 (.rd 35 (.rd 36 (.rd 37 (.rd 38 (.rd 39 (.rd 40 (.rd 41 (.rd 42 (.rd 43 (.rd 44 (.rd 45 (.rd 46 .done))))))))))))))))))))))))))))))))))))))))))))))) (by kernel_rfl) hw (fun w => Ok E I2_202 (.row yv14047 3 1 m14048 cs14049 :: .row yv13294 3 1 m13295 cs13296 :: .blk b193 (.cells ⟨[rvv187, rvv189, Value.bool y182.ok_]⟩ 47 (0, 0)) :: F) w) (fun w hw => ⟨hw.sub (List.Sublist.cons_cons _ (List.Sublist.cons_cons _ (List.Sublist.cons_cons _ (List.Sublist.refl _)))), ?_⟩)
                              refine t_rd rfl hf (fun w hw => r_move hf rfl) rfl fun a hf => ?_
                              refine t_rd rfl hf (fun w hw => r_move hf rfl) rfl fun a hf => ?_
                              obtain ⟨hg14684, hp⟩ := gd_some hp
                              refine t_rd rfl hf (fun w hw => r_indexAddr (K := ek_Plan) hf el_29 rfl rfl (hR204.rd hw) hg14684) rfl fun a hf => ?_
                              refine t_rd rfl hf (fun w hw => r_fieldAddrH hf rfl fd_26_3) rfl fun a hf => ?_
                              obtain ⟨v14685, hR14686, hrun14687⟩ := rs_loadHX (P := P) ty_24 hR204 hg14684 rfl (fun cs h => Plan_f3 h)
                              refine t_rd rfl hf (fun w hw => hrun14687 _ _ _ _ _ _ _ _ _ _ _ _ hw hf rfl) rfl fun a hf => ?_
                              refine t_rd rfl hf (fun w hw => r_move hf rfl) rfl fun a hf => ?_
                              obtain ⟨hg14688, hp⟩ := gd_some hp
                              refine t_rd rfl hf (fun w hw => r_indexAddr (K := (ekI .i64)) hf el_24 rfl rfl (hR14686.rd hw) hg14688) rfl fun a hf => ?_
                              refine t_rd rfl hf (fun w hw => r_loadH (K := (ekI .i64)) hf rfl ty_3 (hR14686.rd hw) hg14688 rfl (fun cs h => ekI_f0 h)) rfl fun a hf => ?_
                              refine t_rd rfl hf (fun w hw => r_move hf rfl) rfl fun a hf => ?_
                              refine t_rd rfl hf (fun w hw => r_icmp hf rfl rfl rfl) rfl fun a hf => ?_
                              refine t_rd rfl hf (fun w hw => r_move hf rfl) rfl fun a hf => ?_
                              refine g_split hf (g := 202) rfl (fun hb14689 hf => ?_) (fun hb14689 hf => ?_)
                              · replace hp := cond_t hb14689 hp
                                refine t_rdS rfl rfl hf rfl rfl rfl fun a hf => ?_
                                refine t_rdS rfl rfl hf rfl rfl rfl fun a hf => ?_
                                refine t_rdS rfl rfl hf rfl rfl rfl fun a hf => ?_
                                refine t_rdS rfl rfl hf rfl rfl rfl fun a hf => ?_
                                refine t_rdS rfl rfl hf rfl rfl rfl fun a hf => ?_
                                refine t_rdS rfl rfl hf rfl rfl rfl fun a hf => ?_
                                refine t_rdS rfl rfl hf rfl rfl rfl fun a hf => ?_
                                refine t_rdS rfl rfl hf rfl rfl rfl fun a hf => ?_
                                refine t_rdS rfl rfl hf rfl rfl rfl fun a hf => ?_
                                refine t_rdS rfl rfl hf rfl rfl rfl fun a hf => ?_
                                refine t_rdS rfl rfl hf rfl rfl rfl fun a hf => ?_
                                refine t_rd rfl hf (fun w hw => r_pickT hf rfl rfl) rfl fun a hf => ?_
                                refine t_rd rfl hf (fun w hw => r_move hf rfl) rfl fun a hf => ?_
                                refine t_rdS rfl rfl hf rfl rfl rfl fun a hf => ?_
                                refine t_rdS rfl rfl hf rfl rfl rfl fun a hf => ?_
                                refine t_rdS rfl rfl hf rfl rfl rfl fun a hf => ?_
                                refine t_rdU rfl rfl hf rfl rfl fun a hf => ?_
                                refine t_rdU rfl rfl hf rfl rfl fun a hf => ?_
                                refine t_rdU rfl rfl hf rfl rfl fun a hf => ?_
                                refine t_rdU rfl rfl hf rfl rfl fun a hf => ?_
                                refine t_rdU rfl rfl hf rfl rfl fun a hf => ?_
                                refine t_rdU rfl rfl hf rfl rfl fun a hf => ?_
                                refine t_rdU rfl rfl hf rfl rfl fun a hf => ?_
                                refine t_rdU rfl rfl hf rfl rfl fun a hf => ?_
                                refine t_rdU rfl rfl hf rfl rfl fun a hf => ?_
                                refine t_rdU rfl rfl hf rfl rfl fun a hf => ?_
                                refine t_rdU rfl rfl hf rfl rfl fun a hf => ?_
                                refine t_rdU rfl rfl hf rfl rfl fun a hf => ?_
                                refine t_rdU rfl rfl hf rfl rfl fun a hf => ?_
                                refine t_rdU rfl rfl hf rfl rfl fun a hf => ?_
                                refine t_rdU rfl rfl hf rfl rfl fun a hf => ?_
                                refine t_rdU rfl rfl hf rfl rfl fun a hf => ?_
                                refine t_rdU rfl rfl hf rfl rfl fun a hf => ?_
                                refine t_rdU rfl rfl hf rfl rfl fun a hf => ?_
                                refine t_rdS rfl rfl hf rfl rfl rfl fun a hf => ?_
                                refine t_rd rfl hf (fun w hw => r_pickT hf rfl rfl) rfl fun a hf => ?_
                                refine t_done ?_
                                refine c_then ?_
                                have ho := out_inj hp
                                subst ho
                                exact ⟨true, rfl, hw, hf.to ⟨rfl, rfl, rfl, rfl, rfl, rfl, rfl, rfl, trivial⟩⟩
                              · replace hp := cond_f hb14689 hp
                                refine t_rdG rfl rfl hf rfl (fun w hw => r_move hf rfl) rfl fun a hf => ?_
                                refine t_rdG rfl rfl hf rfl (fun w hw => r_move hf rfl) rfl fun a hf => ?_
                                obtain ⟨hg14690, hp⟩ := gd_some hp
                                refine t_rdG rfl rfl hf rfl (fun w hw => r_indexAddr (K := ek_Plan) hf el_29 rfl rfl (hR204.rd hw) hg14690) rfl fun a hf => ?_
                                refine t_rdG rfl rfl hf rfl (fun w hw => r_fieldAddrH hf rfl fd_26_3) rfl fun a hf => ?_
                                obtain ⟨v14691, hR14692, hrun14693⟩ := rs_loadHX (P := P) ty_24 hR204 hg14690 rfl (fun cs h => Plan_f3 h)
                                refine t_rdG rfl rfl hf rfl (fun w hw => hrun14693 _ _ _ _ _ _ _ _ _ _ _ _ hw hf rfl) rfl fun a hf => ?_
                                refine t_rdG rfl rfl hf rfl (fun w hw => r_move hf rfl) rfl fun a hf => ?_
                                obtain ⟨hg14694, hp⟩ := gd_some hp
                                refine t_rdG rfl rfl hf rfl (fun w hw => r_indexAddr (K := (ekI .i64)) hf el_24 rfl rfl (hR14692.rd hw) hg14694) rfl fun a hf => ?_
                                refine t_rdG rfl rfl hf rfl (fun w hw => r_loadH (K := (ekI .i64)) hf rfl ty_3 (hR14692.rd hw) hg14694 rfl (fun cs h => ekI_f0 h)) rfl fun a hf => ?_
                                refine t_rdG rfl rfl hf rfl (fun w hw => r_move hf rfl) rfl fun a hf => ?_
                                refine t_rdG rfl rfl hf rfl (fun w hw => r_lenL (K := ek_Plan) hf el_29 rfl (hR204.rd hw)) rfl fun a hf => ?_
                                refine t_rdG rfl rfl hf rfl (fun w hw => r_icmp hf rfl rfl rfl) rfl fun a hf => ?_
                                refine t_rd rfl hf (fun w hw => r_pickF hf rfl rfl) rfl fun a hf => ?_
                                refine t_rd rfl hf (fun w hw => r_move hf rfl) rfl fun a hf => ?_
                                refine g_split hf (g := 215) rfl (fun hb14695 hf => ?_) (fun hb14695 hf => ?_)
                                · replace hp := cond_t hb14695 hp
                                  refine t_rdS rfl rfl hf rfl rfl rfl fun a hf => ?_
                                  refine t_rdS rfl rfl hf rfl rfl rfl fun a hf => ?_
                                  refine t_rdS rfl rfl hf rfl rfl rfl fun a hf => ?_
                                  refine t_rdU rfl rfl hf rfl rfl fun a hf => ?_
                                  refine t_rdU rfl rfl hf rfl rfl fun a hf => ?_
                                  refine t_rdU rfl rfl hf rfl rfl fun a hf => ?_
                                  refine t_rdU rfl rfl hf rfl rfl fun a hf => ?_
                                  refine t_rdU rfl rfl hf rfl rfl fun a hf => ?_
                                  refine t_rdU rfl rfl hf rfl rfl fun a hf => ?_
                                  refine t_rdU rfl rfl hf rfl rfl fun a hf => ?_
                                  refine t_rdU rfl rfl hf rfl rfl fun a hf => ?_
                                  refine t_rdU rfl rfl hf rfl rfl fun a hf => ?_
                                  refine t_rdU rfl rfl hf rfl rfl fun a hf => ?_
                                  refine t_rdU rfl rfl hf rfl rfl fun a hf => ?_
                                  refine t_rdU rfl rfl hf rfl rfl fun a hf => ?_
                                  refine t_rdU rfl rfl hf rfl rfl fun a hf => ?_
                                  refine t_rdU rfl rfl hf rfl rfl fun a hf => ?_
                                  refine t_rdU rfl rfl hf rfl rfl fun a hf => ?_
                                  refine t_rdU rfl rfl hf rfl rfl fun a hf => ?_
                                  refine t_rdU rfl rfl hf rfl rfl fun a hf => ?_
                                  refine t_rdU rfl rfl hf rfl rfl fun a hf => ?_
                                  refine t_rdS rfl rfl hf rfl rfl rfl fun a hf => ?_
                                  refine t_rd rfl hf (fun w hw => r_pickT hf rfl rfl) rfl fun a hf => ?_
                                  refine t_done ?_
                                  refine c_then ?_
                                  have ho := out_inj hp
                                  subst ho
                                  exact ⟨true, rfl, hw, hf.to ⟨rfl, rfl, rfl, rfl, rfl, rfl, rfl, rfl, trivial⟩⟩
                                · replace hp := cond_f hb14695 hp
                                  refine t_rdG rfl rfl hf rfl (fun w hw => r_move hf rfl) rfl fun a hf => ?_
                                  refine t_rdG rfl rfl hf rfl (fun w hw => r_icmp hf rfl rfl rfl) rfl fun a hf => ?_
                                  refine t_rdG rfl rfl hf rfl (fun w hw => r_move hf rfl) rfl fun a hf => ?_
                                  refine g_split hf (g := 218) rfl (fun hb14696 hf => ?_) (fun hb14696 hf => ?_)
                                  · replace hp := cond_t hb14696 hp
                                    refine t_rdG rfl rfl hf rfl (fun w hw => r_move hf rfl) rfl fun a hf => ?_
                                    refine t_rdG rfl rfl hf rfl (fun w hw => r_move hf rfl) rfl fun a hf => ?_
                                    obtain ⟨hg14697, hp⟩ := gd_some hp
                                    refine t_rdG rfl rfl hf rfl (fun w hw => r_indexAddr (K := ek_Plan) hf el_29 rfl rfl (hR204.rd hw) hg14697) rfl fun a hf => ?_
                                    refine t_rdG rfl rfl hf rfl (fun w hw => r_fieldAddrH hf rfl fd_26_3) rfl fun a hf => ?_
                                    obtain ⟨v14698, hR14699, hrun14700⟩ := rs_loadHX (P := P) ty_24 hR204 hg14697 rfl (fun cs h => Plan_f3 h)
                                    refine t_rdG rfl rfl hf rfl (fun w hw => hrun14700 _ _ _ _ _ _ _ _ _ _ _ _ hw hf rfl) rfl fun a hf => ?_
                                    refine t_rdG rfl rfl hf rfl (fun w hw => r_move hf rfl) rfl fun a hf => ?_
                                    obtain ⟨hg14701, hp⟩ := gd_some hp
                                    refine t_rdG rfl rfl hf rfl (fun w hw => r_indexAddr (K := (ekI .i64)) hf el_24 rfl rfl (hR14699.rd hw) hg14701) rfl fun a hf => ?_
                                    refine t_rdG rfl rfl hf rfl (fun w hw => r_loadH (K := (ekI .i64)) hf rfl ty_3 (hR14699.rd hw) hg14701 rfl (fun cs h => ekI_f0 h)) rfl fun a hf => ?_
                                    refine t_rdG rfl rfl hf rfl (fun w hw => r_move hf rfl) rfl fun a hf => ?_
                                    refine t_rdG rfl rfl hf rfl (fun w hw => r_move hf rfl) rfl fun a hf => ?_
                                    obtain ⟨hg14702, hp⟩ := gd_some hp
                                    refine t_rdG rfl rfl hf rfl (fun w hw => r_indexAddr (K := ek_Plan) hf el_29 rfl rfl (hR204.rd hw) hg14702) rfl fun a hf => ?_
                                    refine t_rdG rfl rfl hf rfl (fun w hw => r_fieldAddrH hf rfl fd_26_3) rfl fun a hf => ?_
                                    obtain ⟨v14703, hR14704, hrun14705⟩ := rs_loadHX (P := P) ty_24 hR204 hg14702 rfl (fun cs h => Plan_f3 h)
                                    refine t_rdG rfl rfl hf rfl (fun w hw => hrun14705 _ _ _ _ _ _ _ _ _ _ _ _ hw hf rfl) rfl fun a hf => ?_
                                    refine t_rdG rfl rfl hf rfl (fun w hw => r_move hf rfl) rfl fun a hf => ?_
                                    refine t_rdG rfl rfl hf rfl (fun w hw => r_sub hf rfl rfl) rfl fun a hf => ?_
                                    obtain ⟨hg14706, hp⟩ := gd_some hp
                                    refine t_rdG rfl rfl hf rfl (fun w hw => r_indexAddr (K := (ekI .i64)) hf el_24 rfl rfl (hR14704.rd hw) hg14706) rfl fun a hf => ?_
                                    refine t_rdG rfl rfl hf rfl (fun w hw => r_loadH (K := (ekI .i64)) hf rfl ty_3 (hR14704.rd hw) hg14706 rfl (fun cs h => ekI_f0 h)) rfl fun a hf => ?_
                                    refine t_rdG rfl rfl hf rfl (fun w hw => r_icmp hf rfl rfl rfl) rfl fun a hf => ?_
                                    refine t_rdG rfl rfl hf rfl (fun w hw => r_pickT hf rfl rfl) rfl fun a hf => ?_
                                    refine t_rd rfl hf (fun w hw => r_pickF hf rfl rfl) rfl fun a hf => ?_
                                    refine t_done ?_
                                    refine c_then ?_
                                    have ho := out_inj hp
                                    subst ho
                                    exact ⟨(decide ((gt ((gt y197 y7501).kids_) y14051) ≤ (gt ((gt y197 y7501).kids_) (w64 (y14051 - 1))))), rfl, hw, hf.to ⟨rfl, rfl, rfl, rfl, rfl, rfl, rfl, rfl, trivial⟩⟩
                                  · replace hp := cond_f hb14696 hp
                                    refine t_rdS rfl rfl hf rfl rfl rfl fun a hf => ?_
                                    refine t_rdS rfl rfl hf rfl rfl rfl fun a hf => ?_
                                    refine t_rdS rfl rfl hf rfl rfl rfl fun a hf => ?_
                                    refine t_rdS rfl rfl hf rfl rfl rfl fun a hf => ?_
                                    refine t_rdS rfl rfl hf rfl rfl rfl fun a hf => ?_
                                    refine t_rdS rfl rfl hf rfl rfl rfl fun a hf => ?_
                                    refine t_rdS rfl rfl hf rfl rfl rfl fun a hf => ?_
                                    refine t_rdS rfl rfl hf rfl rfl rfl fun a hf => ?_
                                    refine t_rdS rfl rfl hf rfl rfl rfl fun a hf => ?_
                                    refine t_rdS rfl rfl hf rfl rfl rfl fun a hf => ?_
                                    refine t_rdS rfl rfl hf rfl rfl rfl fun a hf => ?_
                                    refine t_rdS rfl rfl hf rfl rfl rfl fun a hf => ?_
                                    refine t_rdS rfl rfl hf rfl rfl rfl fun a hf => ?_
                                    refine t_rdS rfl rfl hf rfl rfl rfl fun a hf => ?_
                                    refine t_rdS rfl rfl hf rfl rfl rfl fun a hf => ?_
                                    refine t_rdS rfl rfl hf rfl rfl rfl fun a hf => ?_
                                    refine t_rdS rfl rfl hf rfl rfl rfl fun a hf => ?_
                                    refine t_rdS rfl rfl hf rfl rfl rfl fun a hf => ?_
                                    refine t_rdG rfl rfl hf rfl (fun w hw => r_pickF hf rfl rfl) rfl fun a hf => ?_
                                    refine t_rd rfl hf (fun w hw => r_pickF hf rfl rfl) rfl fun a hf => ?_
                                    refine t_done ?_
                                    refine c_then ?_
                                    have ho := out_inj hp
                                    subst ho
                                    exact ⟨false, rfl, hw, hf.to ⟨rfl, rfl, rfl, rfl, rfl, rfl, rfl, rfl, trivial⟩⟩
                            · intro a w hM
                              obtain ⟨y14680, rfl, hw, hf⟩ := hM
                              replace hp := hq14682
                              refine c_cond hf rfl (fun hb14707 => ?_) (fun hb14707 => ?_)
                              · replace hp := cond_t hb14707 hp
                                refine wp_seq ?_
                                refine wp_region_lit ?_
                                refine o_run hf (r_assign hf rfl) rfl fun a hf => ?_
                                refine o_nil ?_
                                refine c_then ?_
                                refine wp_ret ?_
                                refine c_thenR ?_
                                refine c_blockR ?_
                                refine c_thenR ?_
                                refine c_thenR ?_
                                refine c_blockR ?_
                                refine c_thenR ?_
                                have ho := out_inj hp
                                subst ho
                                replace hp := hq14387
                                refine c_blockR ?_
                                refine c_thenR ?_
                                refine c_thenR ?_
                                refine c_blockR ?_
                                refine c_thenR ?_
                                have ho := out_inj hp
                                subst ho
                                replace hp := hq11116
                                refine c_thenR ?_
                                replace hw : Ok E I2_202 (F) w := hw.sub (List.Sublist.cons _ (List.Sublist.cons _ (List.Sublist.cons _ (List.Sublist.refl _))))
                                have ho := out_inj hp
                                subst ho
                                exact b_ret1 hf Go.Proofs.Try.results4 rfl ⟨_, rfl, ⟨rfl, (hw.back (IH.le_trans hle192 hle206) (List.Sublist.refl _))⟩⟩
                              · replace hp := cond_f hb14707 hp
                                refine wp_skip ?_
                                refine c_then ?_
                                refine wp_region_lit ?_
                                refine o_run hf (r_move hf rfl) rfl fun a hf => ?_
                                refine o_run hf (r_move hf rfl) rfl fun a hf => ?_
                                refine o_run hf (r_move hf rfl) rfl fun a hf => ?_
                                obtain ⟨hg14708, hp⟩ := gd_some hp
                                refine o_run hf (r_indexAddr (K := ek_Plan) hf el_29 rfl rfl (hR204.rd hw) hg14708) rfl fun a hf => ?_
                                refine o_run hf (r_fieldAddrH hf rfl fd_26_3) rfl fun a hf => ?_
                                obtain ⟨v14709, hR14710, hrun14711⟩ := rs_loadHX (P := P) ty_24 hR204 hg14708 rfl (fun cs h => Plan_f3 h)
                                refine o_run hf (hrun14711 _ _ _ _ _ _ _ _ _ _ _ _ hw hf rfl) rfl fun a hf => ?_
                                refine o_run hf (r_move hf rfl) rfl fun a hf => ?_
                                obtain ⟨hg14712, hp⟩ := gd_some hp
                                refine o_run hf (r_indexAddr (K := (ekI .i64)) hf el_24 rfl rfl (hR14710.rd hw) hg14712) rfl fun a hf => ?_
                                refine o_run hf (r_loadH (K := (ekI .i64)) hf rfl ty_3 (hR14710.rd hw) hg14712 rfl (fun cs h => ekI_f0 h)) rfl fun a hf => ?_
                                obtain ⟨hg14713, hp⟩ := gd_some hp
                                refine o_run hf (r_indexAddr (K := (ekI .i64)) hf el_24 rfl rfl (row_rd (K := (ekI .i64)) hw (i := 0) rfl hRR14050) hg14713) rfl fun a hf => ?_
                                refine o_run hf (r_loadH (K := (ekI .i64)) hf rfl ty_3 (row_rd (K := (ekI .i64)) hw (i := 0) rfl hRR14050) hg14713 rfl (fun cs h => ekI_f0 h)) rfl fun a hf => ?_
                                refine o_run hf (r_add hf rfl rfl) rfl fun a hf => ?_
                                obtain ⟨hg14714, hp⟩ := gd_some hp
                                refine o_run hf (r_indexAddr (K := (ekI .i64)) hf el_24 rfl rfl (row_rd (K := (ekI .i64)) hw (i := 0) rfl hRR14050) hg14714) rfl fun a hf => ?_
                                obtain ⟨w, cs14716, hrun14715, hw, hRR14717⟩ := e_storeH (P := P) (K := (ekI .i64)) hw hf (x := .tmp 251) (y := .tmp 250) rfl rfl ty_3 0 rfl hRR14050 hg14714 rfl (vs := [Value.int .i64 (w64 ((gt y14046 (gt ((gt y197 y7501).kids_) y14051)) + 1))]) (one_cells rfl) rfl (ones_cons rfl ones_nil) (Nat.le_of_eq (by rfl)) (x' := w64 ((gt y14046 (gt ((gt y197 y7501).kids_) y14051)) + 1)) (whole_store rfl)
                                replace hw : Ok E I2_202 (.row yv14047 3 1 m14048 cs14716 :: .row yv13294 3 1 m13295 cs13296 :: .blk b193 (.cells ⟨[rvv187, rvv189, Value.bool y182.ok_]⟩ 47 (0, 0)) :: F) w := hw
                                refine o_effU (hrun14715 ..) ?_
                                refine o_nil ?_
                                refine c_blockN ?_
                                refine c_then ?_
                                refine wp_region_lit ?_
                                refine o_run hf (r_move hf rfl) rfl fun a hf => ?_
                                refine o_run hf (r_add hf rfl rfl) rfl fun a hf => ?_
                                refine o_run hf (r_assign hf rfl) rfl fun a hf => ?_
                                refine o_nil ?_
                                refine c_then ?_
                                exact ih (y14046.set (gt ((gt y197 y7501).kids_) y14051).toNat (w64 ((gt y14046 (gt ((gt y197 y7501).kids_) y14051)) + 1)), w64 (y14051 + 1)) _ _ ⟨yv14047, m14048, cs14716, hw, hf.to ⟨rfl, rfl, rfl, rfl, rfl, rfl, rfl, trivial⟩, hRR14717⟩ hp
                          · replace hp := cond_f hb14393 hp
                            refine wp_exit ?_
                            refine c_thenE ?_
                            refine c_thenE ?_
                            refine c_exit ?_
                            refine c_then ?_
                            have ho := out_inj hp
                            subst ho
                            exact ⟨y14046, yv14047, m14048, cs14049, rfl, hw, hf.to ⟨rfl, rfl, rfl, rfl, rfl, rfl, trivial⟩, hRR14050⟩
                        · intro a w hM
                          obtain ⟨y14381, yv14382, m14383, cs14384, rfl, hw, hf, hRR14385⟩ := hM
                          replace hp := hq14387
                          refine c_blockN ?_
                          refine c_then ?_
                          refine wp_region_lit ?_
                          refine o_run hf (r_move hf rfl) rfl fun a hf => ?_
                          refine o_run hf (r_add hf rfl rfl) rfl fun a hf => ?_
                          refine o_run hf (r_assign hf rfl) rfl fun a hf => ?_
                          refine o_nil ?_
                          refine c_then ?_
                          exact ih (y13293, y14381, w64 (y7501 + 1)) _ _ ⟨yv13294, m13295, cs13296, yv14382, m14383, cs14384, hw, hf.to ⟨rfl, rfl, rfl, rfl, rfl, rfl, trivial⟩, hRR13297, hRR14385⟩ hp
              · replace hp := cond_f hb11118 hp
                refine wp_exit ?_
                refine c_thenE ?_
                refine c_thenE ?_
                refine c_exit ?_
                refine c_then ?_
                have ho := out_inj hp
                subst ho
                exact ⟨y7491, y7496, yv7492, m7493, cs7494, yv7497, m7498, cs7499, rfl, hw, hf.to ⟨rfl, rfl, rfl, rfl, trivial⟩, hRR7495, hRR7500⟩
            · intro a w hM
              obtain ⟨y11105, y11110, yv11106, m11107, cs11108, yv11111, m11112, cs11113, rfl, hw, hf, hRR11109, hRR11114⟩ := hM
              replace hp := hq11116
              refine c_then ?_
              refine wp_seq ?_
              refine wp_seq ?_
              refine wp_region_lit ?_
              refine o_run hf (r_assign hf rfl) rfl fun a hf => ?_
              refine o_nil ?_
              refine c_then ?_
              obtain ⟨out1628, hp, hq1629⟩ := bind_some hp
              refine c_cutX (fun a w => (.inl ()) = out1628 ∧ Ok E I2_202 (.row yv11111 3 1 m11112 cs11113 :: .row yv11106 3 1 m11107 cs11108 :: .blk b193 (.cells ⟨[rvv187, rvv189, Value.bool y182.ok_]⟩ 47 (0, 0)) :: F) w ∧ Fr 330 ([(9, yv11111)]) a) ?_ ?_
              · refine wp_block ?_
                refine c_loop ?_
                refine c_fuel (law19_PackParts.l4 y182 y197 y11105) out1628 (fun (y1085 : Int) a w => Ok E I2_202 (.row yv11111 3 1 m11112 cs11113 :: .row yv11106 3 1 m11107 cs11108 :: .blk b193 (.cells ⟨[rvv187, rvv189, Value.bool y182.ok_]⟩ 47 (0, 0)) :: F) w ∧ Fr 330 ([(4, rvv187), (5, rvv203), (7, yv11106), (9, yv11111), (16, Value.int .i64 y1085)]) a) (fun _ => rfl) ?_ BIG 0 _ _ ⟨hw, hf.to ⟨rfl, rfl, rfl, rfl, rfl, trivial⟩⟩ hp
                intro k y1085 a w hI hp ih
                obtain ⟨hw, hf⟩ := hI
                rw [law19_PackParts.l4] at hp
                refine wp_seq ?_
                refine wp_seq ?_
                refine wp_region_lit ?_
                refine o_run hf (r_move hf rfl) rfl fun a hf => ?_
                refine o_run hf (r_move hf rfl) rfl fun a hf => ?_
                refine o_run hf (r_lenL (K := ek_Node) hf el_23 rfl (hR188.rd hw)) rfl fun a hf => ?_
                refine o_run hf (r_icmp hf rfl rfl rfl) rfl fun a hf => ?_
                refine o_nil ?_
                refine c_then ?_
                refine c_cond hf rfl (fun hb1631 => ?_) (fun hb1631 => ?_)
                · replace hp := cond_t hb1631 hp
                  refine wp_skip ?_
                  refine c_then ?_
                  refine wp_seq ?_
                  refine wp_block ?_
                  refine wp_seq ?_
                  refine wp_seq ?_
                  refine wp_region_lit ?_
                  refine o_run hf (r_move hf rfl) rfl fun a hf => ?_
                  refine o_run hf (r_move hf rfl) rfl fun a hf => ?_
                  obtain ⟨hg1632, hp⟩ := gd_some hp
                  refine o_run hf (r_indexAddr (K := (ekI .i64)) hf el_24 rfl rfl (row_rd (K := (ekI .i64)) hw (i := 1) rfl hRR11109) hg1632) rfl fun a hf => ?_
                  refine o_run hf (r_loadH (K := (ekI .i64)) hf rfl ty_3 (row_rd (K := (ekI .i64)) hw (i := 1) rfl hRR11109) hg1632 rfl (fun cs h => ekI_f0 h)) rfl fun a hf => ?_
                  refine o_run hf (r_icmp hf rfl rfl rfl) rfl fun a hf => ?_
                  refine o_nil ?_
                  refine c_then ?_
                  refine c_cond hf rfl (fun hb1633 => ?_) (fun hb1633 => ?_)
                  · replace hp := cond_t hb1633 hp
                    refine wp_seq ?_
                    refine wp_region_lit ?_
                    refine o_run hf (r_assign hf rfl) rfl fun a hf => ?_
                    refine o_nil ?_
                    refine c_then ?_
                    refine wp_ret ?_
                    refine c_thenR ?_
                    refine c_blockR ?_
                    refine c_thenR ?_
                    refine c_thenR ?_
                    refine c_blockR ?_
                    refine c_thenR ?_
                    have ho := out_inj hp
                    subst ho
                    replace hp := hq1629
                    refine c_thenR ?_
                    replace hw : Ok E I2_202 (F) w := hw.sub (List.Sublist.cons _ (List.Sublist.cons _ (List.Sublist.cons _ (List.Sublist.refl _))))
                    have ho := out_inj hp
                    subst ho
                    exact b_ret1 hf Go.Proofs.Try.results4 rfl ⟨_, rfl, ⟨rfl, (hw.back (IH.le_trans hle192 hle206) (List.Sublist.refl _))⟩⟩
                  · replace hp := cond_f hb1633 hp
                    refine wp_skip ?_
                    refine c_then ?_
                    refine wp_seq ?_
                    refine wp_region_lit ?_
                    refine o_run hf (r_assign hf rfl) rfl fun a hf => ?_
                    refine o_nil ?_
                    refine c_then ?_
                    obtain ⟨out2035, hp, hq2036⟩ := bind_some hp
                    refine c_cutX (fun a w => (.inl ()) = out2035 ∧ Ok E I2_202 (.row yv11111 3 1 m11112 cs11113 :: .row yv11106 3 1 m11107 cs11108 :: .blk b193 (.cells ⟨[rvv187, rvv189, Value.bool y182.ok_]⟩ 47 (0, 0)) :: F) w ∧ Fr 330 ([(4, rvv187), (5, rvv203), (7, yv11106), (9, yv11111), (16, Value.int .i64 y1085)]) a) ?_ ?_
                    · refine wp_block ?_
                      refine c_loop ?_
                      refine c_fuel (law19_PackParts.l5 y182 y197 y11105 y1085) out2035 (fun (y1901 : Int) a w => Ok E I2_202 (.row yv11111 3 1 m11112 cs11113 :: .row yv11106 3 1 m11107 cs11108 :: .blk b193 (.cells ⟨[rvv187, rvv189, Value.bool y182.ok_]⟩ 47 (0, 0)) :: F) w ∧ Fr 330 ([(4, rvv187), (5, rvv203), (7, yv11106), (9, yv11111), (16, Value.int .i64 y1085), (17, Value.int .i64 y1901)]) a) (fun _ => rfl) ?_ BIG 0 _ _ ⟨hw, hf.to ⟨rfl, rfl, rfl, rfl, rfl, rfl, trivial⟩⟩ hp
                      intro k y1901 a w hI hp ih
                      obtain ⟨hw, hf⟩ := hI
                      rw [law19_PackParts.l5] at hp
                      refine wp_seq ?_
                      refine wp_seq ?_
                      refine wp_region_lit ?_
                      refine o_run hf (r_move hf rfl) rfl fun a hf => ?_
                      refine o_run hf (r_icmp hf rfl rfl rfl) rfl fun a hf => ?_
                      refine o_nil ?_
                      refine c_then ?_
                      refine c_cond hf rfl (fun hb2038 => ?_) (fun hb2038 => ?_)
                      · replace hp := cond_t hb2038 hp
                        refine wp_skip ?_
                        refine c_then ?_
                        refine wp_seq ?_
                        refine wp_block ?_
                        refine wp_seq ?_
                        refine wp_region_lit ?_
                        refine o_run hf (r_move hf rfl) rfl fun a hf => ?_
                        refine o_run hf (r_move hf rfl) rfl fun a hf => ?_
                        refine o_run hf (r_move hf rfl) rfl fun a hf => ?_
                        obtain ⟨hg2105, hp⟩ := gd_some hp
                        refine o_run hf (r_indexAddr (K := ek_Node) hf el_23 rfl rfl (hR188.rd hw) hg2105) rfl fun a hf => ?_
                        refine o_run hf (r_fieldAddrH hf rfl fd_51_4) rfl fun a hf => ?_
                        obtain ⟨hg2106, hp⟩ := gd_some hp
                        refine o_run hf (r_indexAddrAH hf el_49 rfl rfl hg2106) rfl fun a hf => ?_
                        refine o_run hf (r_loadH (K := ek_Node) hf rfl ty_3 (hR188.rd hw) hg2105 (Nat.add_assoc ..) (fun cs h => Node_at h hg2106)) rfl fun a hf => ?_
                        refine o_run hf (r_assign hf rfl) rfl fun a hf => ?_
                        refine o_nil ?_
                        refine c_then ?_
                        obtain ⟨out2148, hp, hq2149⟩ := bind_some hp
                        refine c_cut (fun a w => ∃ y2147 : Bool, y2147 = out2148 ∧ Ok E I2_202 (.row yv11111 3 1 m11112 cs11113 :: .row yv11106 3 1 m11107 cs11108 :: .blk b193 (.cells ⟨[rvv187, rvv189, Value.bool y182.ok_]⟩ 47 (0, 0)) :: F) w ∧ Fr 330 ([(4, rvv187), (5, rvv203), (7, yv11106), (9, yv11111), (16, Value.int .i64 y1085), (17, Value.int .i64 y1901), (314, Value.bool y2147)]) a) ?_ ?_
                        · refine c_drawn mix [] (.rd 0 (.rd 1 (.rd 2 (.rd 3 (.rd 4 (.rd 5 (.rd 6 (.rd 7 (.rd 8 (.rd 9 (.rd 10 (.rd 11 (.rd 12 (.rd 13 (.rd 14 (.rd 15 (.rd 16 (.rd 17 (.rd 18 (.rd 19 (.rd 20 (.rd 21 (.rd 22 (.rd 23 (.rd 24 (.rd 25 (.rd 26 (.rd 27 (.rd 28 (.rd 29 (.rd 30 (.rd 31 (.rd 32 (.rd 33 (.rd 34 (.rd 35 (.rd 36 (.ef 37 (.rd 38 (.rd 39 (.rd 40 .done))))))))))))))))))))))))))))))))))))))))) (by kernel_rfl) hw (fun w => Ok E I2_202 (.row yv11111 3 1 m11112 cs11113 :: .row yv11106 3 1 m11107 cs11108 :: .blk b193 (.cells ⟨[rvv187, rvv189, Value.bool y182.ok_]⟩ 47 (0, 0)) :: F) w) (fun w hw => ⟨hw.sub (List.Sublist.cons_cons _ (List.Sublist.cons_cons _ (List.Sublist.cons_cons _ (List.Sublist.refl _)))), ?_⟩)
                          refine t_rd rfl hf (fun w hw => r_move hf rfl) rfl fun a hf => ?_
                          refine t_rd rfl hf (fun w hw => r_icmp hf rfl rfl rfl) rfl fun a hf => ?_
                          refine t_rd rfl hf (fun w hw => r_move hf rfl) rfl fun a hf => ?_
                          refine g_split hf (g := 276) rfl (fun hb2151 hf => ?_) (fun hb2151 hf => ?_)
                          · replace hp := cond_t hb2151 hp
                            refine t_rdG rfl rfl hf rfl (fun w hw => r_move hf rfl) rfl fun a hf => ?_
                            refine t_rdG rfl rfl hf rfl (fun w hw => r_move hf rfl) rfl fun a hf => ?_
                            obtain ⟨hg2152, hp⟩ := gd_some hp
                            refine t_rdG rfl rfl hf rfl (fun w hw => r_indexAddr (K := (ekI .i64)) hf el_24 rfl rfl (row_rd (K := (ekI .i64)) hw (i := 1) rfl hRR11109) hg2152) rfl fun a hf => ?_
                            refine t_rdG rfl rfl hf rfl (fun w hw => r_loadH (K := (ekI .i64)) hf rfl ty_3 (row_rd (K := (ekI .i64)) hw (i := 1) rfl hRR11109) hg2152 rfl (fun cs h => ekI_f0 h)) rfl fun a hf => ?_
                            refine t_rdG rfl rfl hf rfl (fun w hw => r_move hf rfl) rfl fun a hf => ?_
                            refine t_rdG rfl rfl hf rfl (fun w hw => r_move hf rfl) rfl fun a hf => ?_
                            obtain ⟨hg2153, hp⟩ := gd_some hp
                            refine t_rdG rfl rfl hf rfl (fun w hw => r_indexAddr (K := (ekI .i64)) hf el_24 rfl rfl (row_rd (K := (ekI .i64)) hw (i := 1) rfl hRR11109) hg2153) rfl fun a hf => ?_
                            refine t_rdG rfl rfl hf rfl (fun w hw => r_loadH (K := (ekI .i64)) hf rfl ty_3 (row_rd (K := (ekI .i64)) hw (i := 1) rfl hRR11109) hg2153 rfl (fun cs h => ekI_f0 h)) rfl fun a hf => ?_
                            refine t_rdG rfl rfl hf rfl (fun w hw => r_icmp hf rfl rfl rfl) rfl fun a hf => ?_
                            refine t_rd rfl hf (fun w hw => r_pickT hf rfl rfl) rfl fun a hf => ?_
                            refine t_rd rfl hf (fun w hw => r_move hf rfl) rfl fun a hf => ?_
                            refine g_split hf (g := 287) rfl (fun hb2154 hf => ?_) (fun hb2154 hf => ?_)
                            · replace hp := cond_t hb2154 hp
                              refine t_rdG rfl rfl hf rfl (fun w hw => r_move hf rfl) rfl fun a hf => ?_
                              refine t_rdG rfl rfl hf rfl (fun w hw => r_move hf rfl) rfl fun a hf => ?_
                              refine t_rdG rfl rfl hf rfl (fun w hw => r_move hf rfl) rfl fun a hf => ?_
                              refine t_rdG rfl rfl hf rfl (fun w hw => r_move hf rfl) rfl fun a hf => ?_
                              obtain ⟨hg2155, hp⟩ := gd_some hp
                              refine t_rdG rfl rfl hf rfl (fun w hw => r_indexAddr (K := (ekI .i64)) hf el_24 rfl rfl (row_rd (K := (ekI .i64)) hw (i := 1) rfl hRR11109) hg2155) rfl fun a hf => ?_
                              refine t_rdG rfl rfl hf rfl (fun w hw => r_loadH (K := (ekI .i64)) hf rfl ty_3 (row_rd (K := (ekI .i64)) hw (i := 1) rfl hRR11109) hg2155 rfl (fun cs h => ekI_f0 h)) rfl fun a hf => ?_
                              obtain ⟨hg2156, hp⟩ := gd_some hp
                              refine t_rdG rfl rfl hf rfl (fun w hw => r_indexAddr (K := ek_Plan) hf el_29 rfl rfl (hR204.rd hw) hg2156) rfl fun a hf => ?_
                              refine t_rdG rfl rfl hf rfl (fun w hw => r_fieldAddrH hf rfl fd_26_1) rfl fun a hf => ?_
                              refine t_rdG rfl rfl hf rfl (fun w hw => r_loadH (K := ek_Plan) hf rfl ty_3 (hR204.rd hw) hg2156 rfl (fun cs h => Plan_f1 h)) rfl fun a hf => ?_
                              refine t_rdG rfl rfl hf rfl (fun w hw => r_icmp hf rfl rfl rfl) rfl fun a hf => ?_
                              refine t_rdG rfl rfl hf rfl (fun w hw => r_move hf rfl) rfl fun a hf => ?_
                              refine g_split hf (g := 298) rfl (fun hb2157 hf => ?_) (fun hb2157 hf => ?_)
                              · replace hp := cond_t hb2157 hp
                                refine t_rdS rfl rfl hf rfl rfl rfl fun a hf => ?_
                                refine t_rdS rfl rfl hf rfl rfl rfl fun a hf => ?_
                                refine t_rdS rfl rfl hf rfl rfl rfl fun a hf => ?_
                                refine t_rdS rfl rfl hf rfl rfl rfl fun a hf => ?_
                                refine t_rdS rfl rfl hf rfl rfl rfl fun a hf => ?_
                                refine t_rdS rfl rfl hf rfl rfl rfl fun a hf => ?_
                                refine t_rdS rfl rfl hf rfl rfl rfl fun a hf => ?_
                                refine t_rdS rfl rfl hf rfl rfl rfl fun a hf => ?_
                                refine t_rdS rfl rfl hf rfl rfl rfl fun a hf => ?_
                                refine t_rdS rfl rfl hf rfl rfl rfl fun a hf => ?_
                                refine t_rdS rfl rfl hf rfl rfl rfl fun a hf => ?_
                                refine t_rdS rfl rfl hf rfl rfl rfl fun a hf => ?_
                                refine t_ef rfl ?_
                                refine t_skipE rfl hf rfl rfl rfl fun a hf => ⟨.inr (hw.back (IH.le_refl _) (List.Sublist.cons_cons _ (List.Sublist.cons_cons _ (List.Sublist.cons_cons _ (List.Sublist.refl _))))), ?_⟩
                                refine t_rdS rfl rfl hf rfl rfl rfl fun a hf => ?_
                                refine t_rdG rfl rfl hf rfl (fun w hw => r_pickT hf rfl rfl) rfl fun a hf => ?_
                                refine t_rd rfl hf (fun w hw => r_pickT hf rfl rfl) rfl fun a hf => ?_
                                refine t_done ?_
                                refine c_then ?_
                                have ho := out_inj hp
                                subst ho
                                exact ⟨true, rfl, hw, hf.to ⟨rfl, rfl, rfl, rfl, rfl, rfl, rfl, trivial⟩⟩
                              · replace hp := cond_f hb2157 hp
                                refine t_rdG rfl rfl hf rfl (fun w hw => r_move hf rfl) rfl fun a hf => ?_
                                refine t_rdG rfl rfl hf rfl (fun w hw => r_move hf rfl) rfl fun a hf => ?_
                                refine t_rdG rfl rfl hf rfl (fun w hw => r_move hf rfl) rfl fun a hf => ?_
                                obtain ⟨hg2158, hp⟩ := gd_some hp
                                refine t_rdG rfl rfl hf rfl (fun w hw => r_indexAddr (K := (ekI .i64)) hf el_24 rfl rfl (row_rd (K := (ekI .i64)) hw (i := 1) rfl hRR11109) hg2158) rfl fun a hf => ?_
                                refine t_rdG rfl rfl hf rfl (fun w hw => r_loadH (K := (ekI .i64)) hf rfl ty_3 (row_rd (K := (ekI .i64)) hw (i := 1) rfl hRR11109) hg2158 rfl (fun cs h => ekI_f0 h)) rfl fun a hf => ?_
                                obtain ⟨hg2159, hp⟩ := gd_some hp
                                refine t_rdG rfl rfl hf rfl (fun w hw => r_indexAddr (K := ek_Plan) hf el_29 rfl rfl (hR204.rd hw) hg2159) rfl fun a hf => ?_
                                refine t_rdG rfl rfl hf rfl (fun w hw => r_fieldAddrH hf rfl fd_26_3) rfl fun a hf => ?_
                                obtain ⟨v2160, hR2161, hrun2162⟩ := rs_loadHX (P := P) ty_24 hR204 hg2159 rfl (fun cs h => Plan_f3 h)
                                refine t_rdG rfl rfl hf rfl (fun w hw => hrun2162 _ _ _ _ _ _ _ _ _ _ _ _ hw hf rfl) rfl fun a hf => ?_
                                refine t_rdG rfl rfl hf rfl (fun w hw => r_move hf rfl) rfl fun a hf => ?_
                                refine t_rdG rfl rfl hf rfl (fun w hw => r_move hf rfl) rfl fun a hf => ?_
                                obtain ⟨hg2163, hp⟩ := gd_some hp
                                refine t_rdG rfl rfl hf rfl (fun w hw => r_indexAddr (K := (ekI .i64)) hf el_24 rfl rfl (row_rd (K := (ekI .i64)) hw (i := 1) rfl hRR11109) hg2163) rfl fun a hf => ?_
                                refine t_rdG rfl rfl hf rfl (fun w hw => r_loadH (K := (ekI .i64)) hf rfl ty_3 (row_rd (K := (ekI .i64)) hw (i := 1) rfl hRR11109) hg2163 rfl (fun cs h => ekI_f0 h)) rfl fun a hf => ?_
                                refine t_ef rfl ?_
                                obtain ⟨y2164, hy2165, hp⟩ := bind_some hp
                                have hc2167 := law19_has_ok hw hR2161 hy2165
                                refine t_callG rfl hf rfl cb_25 rfl rfl hc2167 (fun v2169 w a hK2168 hf => ?_)
                                obtain ⟨rfl, hw⟩ := hK2168
                                refine ⟨.inr (hw.back (IH.le_refl _) (List.Sublist.cons_cons _ (List.Sublist.cons_cons _ (List.Sublist.cons_cons _ (List.Sublist.refl _))))), ?_⟩
                                refine t_rdG rfl rfl hf rfl (fun w hw => r_not hf rfl) rfl fun a hf => ?_
                                refine t_rdG rfl rfl hf rfl (fun w hw => r_pickF hf rfl rfl) rfl fun a hf => ?_
                                refine t_rd rfl hf (fun w hw => r_pickT hf rfl rfl) rfl fun a hf => ?_
                                refine t_done ?_
                                refine c_then ?_
                                have ho := out_inj hp
                                subst ho
                                exact ⟨(!y2164), rfl, hw, hf.to ⟨rfl, rfl, rfl, rfl, rfl, rfl, rfl, trivial⟩⟩
                            · replace hp := cond_f hb2154 hp
                              refine t_rdS rfl rfl hf rfl rfl rfl fun a hf => ?_
                              refine t_rdS rfl rfl hf rfl rfl rfl fun a hf => ?_
                              refine t_rdS rfl rfl hf rfl rfl rfl fun a hf => ?_
                              refine t_rdS rfl rfl hf rfl rfl rfl fun a hf => ?_
                              refine t_rdS rfl rfl hf rfl rfl rfl fun a hf => ?_
                              refine t_rdS rfl rfl hf rfl rfl rfl fun a hf => ?_
                              refine t_rdS rfl rfl hf rfl rfl rfl fun a hf => ?_
                              refine t_rdS rfl rfl hf rfl rfl rfl fun a hf => ?_
                              refine t_rdS rfl rfl hf rfl rfl rfl fun a hf => ?_
                              refine t_rdS rfl rfl hf rfl rfl rfl fun a hf => ?_
                              refine t_rdS rfl rfl hf rfl rfl rfl fun a hf => ?_
                              refine t_rdU rfl rfl hf rfl rfl fun a hf => ?_
                              refine t_rdU rfl rfl hf rfl rfl fun a hf => ?_
                              refine t_rdU rfl rfl hf rfl rfl fun a hf => ?_
                              refine t_rdU rfl rfl hf rfl rfl fun a hf => ?_
                              refine t_rdU rfl rfl hf rfl rfl fun a hf => ?_
                              refine t_rdU rfl rfl hf rfl rfl fun a hf => ?_
                              refine t_rdU rfl rfl hf rfl rfl fun a hf => ?_
                              refine t_rdU rfl rfl hf rfl rfl fun a hf => ?_
                              refine t_rdU rfl rfl hf rfl rfl fun a hf => ?_
                              refine t_rdU rfl rfl hf rfl rfl fun a hf => ?_
                              refine t_rdU rfl rfl hf rfl rfl fun a hf => ?_
                              refine t_rdU rfl rfl hf rfl rfl fun a hf => ?_
                              refine t_ef rfl ?_
                              refine t_skipEU rfl hf rfl rfl fun a hf => ⟨.inr (hw.back (IH.le_refl _) (List.Sublist.cons_cons _ (List.Sublist.cons_cons _ (List.Sublist.cons_cons _ (List.Sublist.refl _))))), ?_⟩
                              refine t_rdU rfl rfl hf rfl rfl fun a hf => ?_
                              refine t_rdS rfl rfl hf rfl rfl rfl fun a hf => ?_
                              refine t_rd rfl hf (fun w hw => r_pickF hf rfl rfl) rfl fun a hf => ?_
                              refine t_done ?_
                              refine c_then ?_
                              have ho := out_inj hp
                              subst ho
                              exact ⟨false, rfl, hw, hf.to ⟨rfl, rfl, rfl, rfl, rfl, rfl, rfl, trivial⟩⟩
                          · replace hp := cond_f hb2151 hp
                            refine t_rdS rfl rfl hf rfl rfl rfl fun a hf => ?_
                            refine t_rdS rfl rfl hf rfl rfl rfl fun a hf => ?_
                            refine t_rdS rfl rfl hf rfl rfl rfl fun a hf => ?_
                            refine t_rdS rfl rfl hf rfl rfl rfl fun a hf => ?_
                            refine t_rdS rfl rfl hf rfl rfl rfl fun a hf => ?_
                            refine t_rdS rfl rfl hf rfl rfl rfl fun a hf => ?_
                            refine t_rdS rfl rfl hf rfl rfl rfl fun a hf => ?_
                            refine t_rdS rfl rfl hf rfl rfl rfl fun a hf => ?_
                            refine t_rdS rfl rfl hf rfl rfl rfl fun a hf => ?_
                            refine t_rd rfl hf (fun w hw => r_pickF hf rfl rfl) rfl fun a hf => ?_
                            refine t_rd rfl hf (fun w hw => r_move hf rfl) rfl fun a hf => ?_
                            refine t_rdS rfl rfl hf rfl rfl rfl fun a hf => ?_
                            refine t_rdS rfl rfl hf rfl rfl rfl fun a hf => ?_
                            refine t_rdS rfl rfl hf rfl rfl rfl fun a hf => ?_
                            refine t_rdS rfl rfl hf rfl rfl rfl fun a hf => ?_
                            refine t_rdS rfl rfl hf rfl rfl rfl fun a hf => ?_
                            refine t_rdS rfl rfl hf rfl rfl rfl fun a hf => ?_
                            refine t_rdS rfl rfl hf rfl rfl rfl fun a hf => ?_
                            refine t_rdS rfl rfl hf rfl rfl rfl fun a hf => ?_
                            refine t_rdS rfl rfl hf rfl rfl rfl fun a hf => ?_
                            refine t_rdS rfl rfl hf rfl rfl rfl fun a hf => ?_
                            refine t_rdS rfl rfl hf rfl rfl rfl fun a hf => ?_
                            refine t_rdU rfl rfl hf rfl rfl fun a hf => ?_
                            refine t_rdU rfl rfl hf rfl rfl fun a hf => ?_
                            refine t_rdU rfl rfl hf rfl rfl fun a hf => ?_
                            refine t_rdU rfl rfl hf rfl rfl fun a hf => ?_
                            refine t_rdU rfl rfl hf rfl rfl fun a hf => ?_
                            refine t_rdU rfl rfl hf rfl rfl fun a hf => ?_
                            refine t_rdU rfl rfl hf rfl rfl fun a hf => ?_
                            refine t_rdU rfl rfl hf rfl rfl fun a hf => ?_
                            refine t_rdU rfl rfl hf rfl rfl fun a hf => ?_
                            refine t_rdU rfl rfl hf rfl rfl fun a hf => ?_
                            refine t_rdU rfl rfl hf rfl rfl fun a hf => ?_
                            refine t_rdU rfl rfl hf rfl rfl fun a hf => ?_
                            refine t_ef rfl ?_
                            refine t_skipEU rfl hf rfl rfl fun a hf => ⟨.inr (hw.back (IH.le_refl _) (List.Sublist.cons_cons _ (List.Sublist.cons_cons _ (List.Sublist.cons_cons _ (List.Sublist.refl _))))), ?_⟩
                            refine t_rdU rfl rfl hf rfl rfl fun a hf => ?_
                            refine t_rdS rfl rfl hf rfl rfl rfl fun a hf => ?_
                            refine t_rd rfl hf (fun w hw => r_pickF hf rfl rfl) rfl fun a hf => ?_
                            refine t_done ?_
                            refine c_then ?_
                            have ho := out_inj hp
                            subst ho
                            exact ⟨false, rfl, hw, hf.to ⟨rfl, rfl, rfl, rfl, rfl, rfl, rfl, trivial⟩⟩
                        · intro a w hM
                          obtain ⟨y2147, rfl, hw, hf⟩ := hM
                          replace hp := hq2149
                          refine c_cond hf rfl (fun hb2170 => ?_) (fun hb2170 => ?_)
                          · replace hp := cond_t hb2170 hp
                            refine wp_seq ?_
                            refine wp_region_lit ?_
                            refine o_run hf (r_assign hf rfl) rfl fun a hf => ?_
                            refine o_nil ?_
                            refine c_then ?_
                            refine wp_ret ?_
                            refine c_blockR ?_
                            refine c_thenR ?_
                            refine c_thenR ?_
                            refine c_blockR ?_
                            refine c_thenR ?_
                            have ho := out_inj hp
                            subst ho
                            replace hp := hq2036
                            refine c_blockR ?_
                            refine c_thenR ?_
                            refine c_thenR ?_
                            refine c_blockR ?_
                            refine c_thenR ?_
                            have ho := out_inj hp
                            subst ho
                            replace hp := hq1629
                            refine c_thenR ?_
                            replace hw : Ok E I2_202 (F) w := hw.sub (List.Sublist.cons _ (List.Sublist.cons _ (List.Sublist.cons _ (List.Sublist.refl _))))
                            have ho := out_inj hp
                            subst ho
                            exact b_ret1 hf Go.Proofs.Try.results4 rfl ⟨_, rfl, ⟨rfl, (hw.back (IH.le_trans hle192 hle206) (List.Sublist.refl _))⟩⟩
                          · replace hp := cond_f hb2170 hp
                            refine wp_skip ?_
                            refine c_blockN ?_
                            refine c_then ?_
                            refine wp_region_lit ?_
                            refine o_run hf (r_move hf rfl) rfl fun a hf => ?_
                            refine o_run hf (r_add hf rfl rfl) rfl fun a hf => ?_
                            refine o_run hf (r_assign hf rfl) rfl fun a hf => ?_
                            refine o_nil ?_
                            refine c_then ?_
                            exact ih (w64 (y1901 + 1)) _ _ ⟨hw, hf.to ⟨rfl, rfl, rfl, rfl, rfl, rfl, trivial⟩⟩ hp
                      · replace hp := cond_f hb2038 hp
                        refine wp_exit ?_
                        refine c_thenE ?_
                        refine c_thenE ?_
                        refine c_exit ?_
                        refine c_then ?_
                        have ho := out_inj hp
                        subst ho
                        exact ⟨rfl, hw, hf.to ⟨rfl, rfl, rfl, rfl, rfl, trivial⟩⟩
                    · intro a w hM
                      obtain ⟨rfl, hw, hf⟩ := hM
                      replace hp := hq2036
                      refine c_blockN ?_
                      refine c_then ?_
                      refine wp_region_lit ?_
                      refine o_run hf (r_move hf rfl) rfl fun a hf => ?_
                      refine o_run hf (r_add hf rfl rfl) rfl fun a hf => ?_
                      refine o_run hf (r_assign hf rfl) rfl fun a hf => ?_
                      refine o_nil ?_
                      refine c_then ?_
                      exact ih (w64 (y1085 + 1)) _ _ ⟨hw, hf.to ⟨rfl, rfl, rfl, rfl, rfl, trivial⟩⟩ hp
                · replace hp := cond_f hb1631 hp
                  refine wp_exit ?_
                  refine c_thenE ?_
                  refine c_thenE ?_
                  refine c_exit ?_
                  refine c_then ?_
                  have ho := out_inj hp
                  subst ho
                  exact ⟨rfl, hw, hf.to ⟨rfl, trivial⟩⟩
              · intro a w hM
                obtain ⟨rfl, hw, hf⟩ := hM
                replace hp := hq1629
                refine c_then ?_
                refine wp_seq ?_
                refine wp_seq ?_
                refine wp_region_lit ?_
                refine o_run hf (r_assign hf rfl) rfl fun a hf => ?_
                refine o_nil ?_
                refine c_then ?_
                obtain ⟨out2185, hp, hq2186⟩ := bind_some hp
                refine c_cutX (fun a w => (.inl ()) = out2185 ∧ Ok E I2_202 (.row yv11111 3 1 m11112 cs11113 :: .row yv11106 3 1 m11107 cs11108 :: .blk b193 (.cells ⟨[rvv187, rvv189, Value.bool y182.ok_]⟩ 47 (0, 0)) :: F) w ∧ Fr 330 ([]) a) ?_ ?_
                · refine wp_block ?_
                  refine c_loop ?_
                  refine c_fuel (law19_PackParts.l6 y11110) out2185 (fun (y2181 : Int) a w => Ok E I2_202 (.row yv11111 3 1 m11112 cs11113 :: .row yv11106 3 1 m11107 cs11108 :: .blk b193 (.cells ⟨[rvv187, rvv189, Value.bool y182.ok_]⟩ 47 (0, 0)) :: F) w ∧ Fr 330 ([(9, yv11111), (19, Value.int .i64 y2181)]) a) (fun _ => rfl) ?_ BIG 0 _ _ ⟨hw, hf.to ⟨rfl, rfl, trivial⟩⟩ hp
                  intro k y2181 a w hI hp ih
                  obtain ⟨hw, hf⟩ := hI
                  rw [law19_PackParts.l6] at hp
                  refine wp_seq ?_
                  refine wp_seq ?_
                  refine wp_region_lit ?_
                  refine o_run hf (r_move hf rfl) rfl fun a hf => ?_
                  refine o_run hf (r_move hf rfl) rfl fun a hf => ?_
                  refine o_run hf (r_lenL (K := (ekI .i64)) hf el_24 rfl (row_rd (K := (ekI .i64)) hw (i := 0) rfl hRR11114)) rfl fun a hf => ?_
                  refine o_run hf (r_icmp hf rfl rfl rfl) rfl fun a hf => ?_
                  refine o_nil ?_
                  refine c_then ?_
                  refine c_cond hf rfl (fun hb2188 => ?_) (fun hb2188 => ?_)
                  · replace hp := cond_t hb2188 hp
                    refine wp_skip ?_
                    refine c_then ?_
                    refine wp_seq ?_
                    refine wp_block ?_
                    refine wp_seq ?_
                    refine wp_region_lit ?_
                    refine o_run hf (r_move hf rfl) rfl fun a hf => ?_
                    refine o_run hf (r_move hf rfl) rfl fun a hf => ?_
                    obtain ⟨hg2189, hp⟩ := gd_some hp
                    refine o_run hf (r_indexAddr (K := (ekI .i64)) hf el_24 rfl rfl (row_rd (K := (ekI .i64)) hw (i := 0) rfl hRR11114) hg2189) rfl fun a hf => ?_
                    refine o_run hf (r_loadH (K := (ekI .i64)) hf rfl ty_3 (row_rd (K := (ekI .i64)) hw (i := 0) rfl hRR11114) hg2189 rfl (fun cs h => ekI_f0 h)) rfl fun a hf => ?_
                    refine o_run hf (r_icmp hf rfl rfl rfl) rfl fun a hf => ?_
                    refine o_run hf (r_move hf rfl) rfl fun a hf => ?_
                    refine o_run hf (r_icmp hf rfl rfl rfl) rfl fun a hf => ?_
                    refine o_run hf (r_bne hf und_4 rfl rfl) rfl fun a hf => ?_
                    refine o_nil ?_
                    refine c_then ?_
                    refine c_cond hf rfl (fun hb2190 => ?_) (fun hb2190 => ?_)
                    · replace hp := cond_t hb2190 hp
                      refine wp_seq ?_
                      refine wp_region_lit ?_
                      refine o_run hf (r_assign hf rfl) rfl fun a hf => ?_
                      refine o_nil ?_
                      refine c_then ?_
                      refine wp_ret ?_
                      refine c_blockR ?_
                      refine c_thenR ?_
                      refine c_thenR ?_
                      refine c_blockR ?_
                      refine c_thenR ?_
                      have ho := out_inj hp
                      subst ho
                      replace hp := hq2186
                      refine c_thenR ?_
                      replace hw : Ok E I2_202 (F) w := hw.sub (List.Sublist.cons _ (List.Sublist.cons _ (List.Sublist.cons _ (List.Sublist.refl _))))
                      have ho := out_inj hp
                      subst ho
                      exact b_ret1 hf Go.Proofs.Try.results4 rfl ⟨_, rfl, ⟨rfl, (hw.back (IH.le_trans hle192 hle206) (List.Sublist.refl _))⟩⟩
                    · replace hp := cond_f hb2190 hp
                      refine wp_skip ?_
                      refine c_blockN ?_
                      refine c_then ?_
                      refine wp_region_lit ?_
                      refine o_run hf (r_move hf rfl) rfl fun a hf => ?_
                      refine o_run hf (r_add hf rfl rfl) rfl fun a hf => ?_
                      refine o_run hf (r_assign hf rfl) rfl fun a hf => ?_
                      refine o_nil ?_
                      refine c_then ?_
                      exact ih (w64 (y2181 + 1)) _ _ ⟨hw, hf.to ⟨rfl, rfl, trivial⟩⟩ hp
                  · replace hp := cond_f hb2188 hp
                    refine wp_exit ?_
                    refine c_thenE ?_
                    refine c_thenE ?_
                    refine c_exit ?_
                    refine c_then ?_
                    have ho := out_inj hp
                    subst ho
                    exact ⟨rfl, hw, hf.to trivial⟩
                · intro a w hM
                  obtain ⟨rfl, hw, hf⟩ := hM
                  replace hp := hq2186
                  refine c_then ?_
                  refine wp_seq ?_
                  refine wp_region_lit ?_
                  obtain ⟨y2192, hy2193, hp⟩ := bind_some hp
                  have hc2195 := law19_wakes_ok hw hy2193
                  refine o_call hf cb_13 rfl rfl hc2195 (fun v2197 w a hK2196 hf => ?_)
                  obtain ⟨rfl, hw⟩ := hK2196
                  refine o_run hf (r_assign hf rfl) rfl fun a hf => ?_
                  refine o_nil ?_
                  refine c_then ?_
                  refine wp_ret ?_
                  replace hw : Ok E I2_202 (F) w := hw.sub (List.Sublist.cons _ (List.Sublist.cons _ (List.Sublist.cons _ (List.Sublist.refl _))))
                  have ho := out_inj hp
                  subst ho
                  exact b_ret1 hf Go.Proofs.Try.results4 rfl ⟨_, rfl, ⟨rfl, (hw.back (IH.le_trans hle192 hle206) (List.Sublist.refl _))⟩⟩
end Go.Lf
