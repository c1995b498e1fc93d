/- The Go functions compute the plain Lean functions (printed by our lift.py). -/
import Derived.Test.YtckhmgglgbnaaaaZD
import Derived.Test.YtckhmgglgbnaaaaZF
import Derived.Test.YtckhmgglgbnaaaaN
import Derived.Test.YtckhmgglgbnaaaaZK0
import Derived.Test.YtckhmgglgbnaaaaZK6
import Derived.Test.YtckhmgglgbnaaaaZK7
import Derived.Test.YtckhmgglgbnaaaaZK8
import Derived.Test.YtckhmgglgbnaaaaZK11
import Derived.Test.YtckhmgglgbnaaaaZK12
import Derived.Test.YtckhmgglgbnaaaaZK13
set_option linter.unusedVariables false
set_option linter.unusedSimpArgs false
namespace Go.Lf
open Go
set_option maxHeartbeats 1000000 in
set_option maxRecDepth 20000 in
theorem law19_PackTells_ok {E : World} {I : IH} {F : List Atom} {w : World} {a0 : List Node} {a0v1 : Value} {a1 : Int} {a2 : Plan} {a2v3 : Value} {a2v5 : Value} {res0 : Bool} (hw : Ok E I (F) w) (hR2 : RS ek_Node I a0v1 a0) (hR4 : RS (ekI .i64) I a2v3 a2.nodes_) (hR6 : RS (ekI .i64) I a2v5 a2.kids_) (hp : law19_PackTells.f a0 a1 a2 = some res0) :
    Calls P 3 ⟨[a0v1, Value.int .i64 a1, Value.agg ⟨[Value.string a2.prefix_, Value.int .i64 a2.top_, a2v3, a2v5]⟩]⟩ w fun e w' => ∃ v, e = .returned v ∧ v = Value.bool res0 ∧ Ok E I (F) w' := by
  refine c_enter Go.Proofs.Try.func3 rfl Go.Proofs.Try.ntmps3 rfl fun a hf => ?_
  replace hf : Fr 107 [(0, a0v1), (1, Value.int .i64 a1), (2, Value.agg ⟨[Value.string a2.prefix_, Value.int .i64 a2.top_, a2v3, a2v5]⟩)] a := hf
  unfold law19_PackTells.f at hp
  refine wp_seq ?_
  refine wp_region_lit ?_
  obtain ⟨b1, w, hrun2, hw⟩ := e_box (P := P) hw hf (e := 26) (x := .tmp 2) rfl (cs := [Value.string a2.prefix_, Value.int .i64 a2.top_, a2v3, a2v5]) rfl
  refine o_eff hf (hrun2 ..) rfl fun a hf => ?_
  refine o_run hf (r_assign hf rfl) rfl fun a hf => ?_
  refine o_nil ?_
  refine c_then ?_
  refine wp_seq ?_
  obtain ⟨out152, hp, hq153⟩ := bind_some hp
  refine c_cut (fun a w => ∃ y151 : Bool, y151 = out152 ∧ Ok E I (.blk b1 (.cells ⟨[Value.string a2.prefix_, Value.int .i64 a2.top_, a2v3, a2v5]⟩ 26 (0, 0)) :: F) w ∧ Fr 107 ([(0, a0v1), (1, Value.int .i64 a1), (5, Value.pointer (some ⟨b1, 0, none⟩)), (35, Value.bool y151)]) a) ?_ ?_
  · refine wp_region_lit ?_
    refine o_run hf (r_move hf rfl) rfl fun a hf => ?_
    obtain ⟨y154, hy155, hp⟩ := bind_some hp
    have hc157 := keep_LongTrie_ok hw hR2 hy155
    refine o_call hf cb_12 rfl rfl hc157 (fun v159 w a hK158 hf => ?_)
    obtain ⟨rfl, hw⟩ := hK158
    refine o_run hf (r_move hf rfl) rfl fun a hf => ?_
    refine g_split hf (g := 19) rfl (fun hb160 hf => ?_) (fun hb160 hf => ?_)
    · replace hp := cond_t hb160 hp
      refine o_skip hf (g := 19) rfl rfl rfl rfl rfl rfl fun a hf => ?_
      refine o_skip hf (g := 19) rfl rfl rfl rfl rfl rfl fun a hf => ?_
      refine o_skip hf (g := 19) rfl rfl rfl rfl rfl rfl fun a hf => ?_
      refine o_run hf (r_pickT hf rfl rfl) rfl fun a hf => ?_
      refine o_run hf (r_move hf rfl) rfl fun a hf => ?_
      refine o_skip hf (g := 24) rfl rfl rfl rfl rfl rfl fun a hf => ?_
      refine o_skip hf (g := 24) rfl rfl rfl rfl rfl rfl fun a hf => ?_
      refine o_skip hf (g := 24) rfl rfl rfl rfl rfl rfl fun a hf => ?_
      refine o_skip hf (g := 24) rfl rfl rfl rfl rfl rfl fun a hf => ?_
      refine o_run hf (r_pickT hf rfl rfl) rfl fun a hf => ?_
      refine o_run hf (r_move hf rfl) rfl fun a hf => ?_
      refine o_skip hf (g := 30) rfl rfl rfl rfl rfl rfl fun a hf => ?_
      refine o_skip hf (g := 30) rfl rfl rfl rfl rfl rfl fun a hf => ?_
      refine o_skip hf (g := 30) rfl rfl rfl rfl rfl rfl fun a hf => ?_
      refine o_skip hf (g := 30) rfl rfl rfl rfl rfl rfl fun a hf => ?_
      refine o_run hf (r_pickT hf rfl rfl) rfl fun a hf => ?_
      refine o_nil ?_
      refine c_then ?_
      have ho := out_inj hp
      subst ho
      exact ⟨true, rfl, hw, hf.to ⟨rfl, rfl, rfl, rfl, trivial⟩⟩
    · replace hp := cond_f hb160 hp
      refine o_want hf (g := 19) rfl rfl ?_
      refine o_run hf (r_move hf rfl) rfl fun a hf => ?_
      refine o_want hf (g := 19) rfl rfl ?_
      refine o_run hf (r_lenL (K := ek_Node) hf el_23 rfl (hR2.rd hw)) rfl fun a hf => ?_
      refine o_want hf (g := 19) rfl rfl ?_
      refine o_run hf (r_icmp hf rfl rfl rfl) rfl fun a hf => ?_
      refine o_run hf (r_pickF hf rfl rfl) rfl fun a hf => ?_
      refine o_run hf (r_move hf rfl) rfl fun a hf => ?_
      refine g_split hf (g := 24) rfl (fun hb161 hf => ?_) (fun hb161 hf => ?_)
      · replace hp := cond_t hb161 hp
        refine o_skip hf (g := 24) rfl rfl rfl rfl rfl rfl fun a hf => ?_
        refine o_skip hf (g := 24) rfl rfl rfl rfl rfl rfl fun a hf => ?_
        refine o_skip hf (g := 24) rfl rfl rfl rfl rfl rfl fun a hf => ?_
        refine o_skip hf (g := 24) rfl rfl rfl rfl rfl rfl fun a hf => ?_
        refine o_run hf (r_pickT hf rfl rfl) rfl fun a hf => ?_
        refine o_run hf (r_move hf rfl) rfl fun a hf => ?_
        refine o_skip hf (g := 30) rfl rfl rfl rfl rfl rfl fun a hf => ?_
        refine o_skip hf (g := 30) rfl rfl rfl rfl rfl rfl fun a hf => ?_
        refine o_skip hf (g := 30) rfl rfl rfl rfl rfl rfl fun a hf => ?_
        refine o_skip hf (g := 30) rfl rfl rfl rfl rfl rfl fun a hf => ?_
        refine o_run hf (r_pickT hf rfl rfl) rfl fun a hf => ?_
        refine o_nil ?_
        refine c_then ?_
        have ho := out_inj hp
        subst ho
        exact ⟨true, rfl, hw, hf.to ⟨rfl, rfl, rfl, rfl, trivial⟩⟩
      · replace hp := cond_f hb161 hp
        refine o_want hf (g := 24) rfl rfl ?_
        refine o_run hf (r_fieldAddr hf rfl fd_26_2) rfl fun a hf => ?_
        refine o_want hf (g := 24) rfl rfl ?_
        refine o_run hf (r_load hw hf rfl ty_24 0 rfl rfl) rfl fun a hf => ?_
        refine o_want hf (g := 24) rfl rfl ?_
        refine o_run hf (r_lenL (K := (ekI .i64)) hf el_24 rfl (hR4.rd hw)) rfl fun a hf => ?_
        refine o_want hf (g := 24) rfl rfl ?_
        refine o_run hf (r_icmp hf rfl rfl rfl) rfl fun a hf => ?_
        refine o_run hf (r_pickF hf rfl rfl) rfl fun a hf => ?_
        refine o_run hf (r_move hf rfl) rfl fun a hf => ?_
        refine g_split hf (g := 30) rfl (fun hb162 hf => ?_) (fun hb162 hf => ?_)
        · replace hp := cond_t hb162 hp
          refine o_skip hf (g := 30) rfl rfl rfl rfl rfl rfl fun a hf => ?_
          refine o_skip hf (g := 30) rfl rfl rfl rfl rfl rfl fun a hf => ?_
          refine o_skip hf (g := 30) rfl rfl rfl rfl rfl rfl fun a hf => ?_
          refine o_skip hf (g := 30) rfl rfl rfl rfl rfl rfl fun a hf => ?_
          refine o_run hf (r_pickT hf rfl rfl) rfl fun a hf => ?_
          refine o_nil ?_
          refine c_then ?_
          have ho := out_inj hp
          subst ho
          exact ⟨true, rfl, hw, hf.to ⟨rfl, rfl, rfl, rfl, trivial⟩⟩
        · replace hp := cond_f hb162 hp
          refine o_want hf (g := 30) rfl rfl ?_
          refine o_run hf (r_fieldAddr hf rfl fd_26_3) rfl fun a hf => ?_
          refine o_want hf (g := 30) rfl rfl ?_
          refine o_run hf (r_load hw hf rfl ty_24 0 rfl rfl) rfl fun a hf => ?_
          refine o_want hf (g := 30) rfl rfl ?_
          refine o_run hf (r_lenL (K := (ekI .i64)) hf el_24 rfl (hR6.rd hw)) rfl fun a hf => ?_
          refine o_want hf (g := 30) rfl rfl ?_
          refine o_run hf (r_icmp hf rfl rfl rfl) rfl fun a hf => ?_
          refine o_run hf (r_pickF hf rfl rfl) rfl fun a hf => ?_
          refine o_nil ?_
          refine c_then ?_
          have ho := out_inj hp
          subst ho
          exact ⟨(decide ((a2.kids_.length : Int) > 300)), rfl, hw, hf.to ⟨rfl, rfl, rfl, rfl, trivial⟩⟩
  · intro a w hM
    obtain ⟨y151, rfl, hw, hf⟩ := hM
    replace hp := hq153
    refine c_cond hf rfl (fun hb163 => ?_) (fun hb163 => ?_)
    · replace hp := cond_t hb163 hp
      refine wp_seq ?_
      refine wp_region_lit ?_
      obtain ⟨y164, hy165, hp⟩ := bind_some hp
      have hc167 := law19_wakes_ok hw hy165
      refine o_call hf cb_13 rfl rfl hc167 (fun v169 w a hK168 hf => ?_)
      obtain ⟨rfl, hw⟩ := hK168
      refine o_run hf (r_assign hf rfl) rfl fun a hf => ?_
      refine o_nil ?_
      refine c_then ?_
      refine wp_ret ?_
      refine c_thenR ?_
      replace hw : Ok E I (F) w := hw.sub (List.Sublist.cons _ (List.Sublist.refl _))
      have ho := out_inj hp
      subst ho
      exact b_ret1 hf Go.Proofs.Try.results3 rfl ⟨_, rfl, ⟨rfl, hw⟩⟩
    · replace hp := cond_f hb163 hp
      refine wp_skip ?_
      refine c_then ?_
      refine wp_seq ?_
      refine wp_region_lit ?_
      obtain ⟨w, v170, hrun171, hw, hRR172⟩ := e_buildSlice (P := P) (K := ek_Node) (m := 0) hw hf (parts := []) el_23 ty_51 rfl rfl rfl (ccs := []) rfl (xs := ([] : List Node)) trivial rfl
      obtain ⟨cs173, hcs⟩ : ∃ cs, cs = ([] : List (List Value)).flatten := ⟨_, rfl⟩
      rw [← hcs] at hw hRR172; clear hcs
      refine o_eff hf (hrun171 ..) rfl fun a hf => ?_
      refine o_run hf (r_move hf rfl) rfl fun a hf => ?_
      obtain ⟨hg175, hp⟩ := gd_some hp
      obtain ⟨w, v176, m177, cs178, hrun180, hw, hRR179⟩ := e_append (P := P) (K := ek_Node) (ty := 23) hw hf (s := .tmp 37) (x := .tmp 38) el_23 ty_51 rfl (by decide) 0 rfl rfl rfl hRR172 (ys := a0) (hR2.rd hw) hg175
      replace hw : Ok E I (.row v176 51 20 m177 cs178 :: .blk b1 (.cells ⟨[Value.string a2.prefix_, Value.int .i64 a2.top_, a2v3, a2v5]⟩ 26 (0, 0)) :: F) w := hw
      refine o_eff hf (hrun180 ..) rfl fun a hf => ?_
      refine o_run hf (r_assign hf rfl) rfl fun a hf => ?_
      refine o_nil ?_
      refine c_then ?_
      refine wp_seq ?_
      refine wp_region_lit ?_
      refine o_run hf (r_move hf rfl) rfl fun a hf => ?_
      have hw : Ok E I (.row v176 51 20 m177 cs178 :: .blk b1 (.cells ⟨[Value.string a2.prefix_, Value.int .i64 a2.top_, a2v3, a2v5]⟩ 26 (0, 0)) :: F) w := hw.front (i := 0) rfl
      obtain ⟨I181, hle182, hw, hR183⟩ := row_freeze (K := ek_Node) hw hRR179
      replace hR2 := hR2.mono hle182
      replace hR4 := hR4.mono hle182
      replace hR6 := hR6.mono hle182
      obtain ⟨y187, hy186, hp⟩ := bind_some hp
      obtain ⟨y184, y185⟩ := y187
      have hc188 := pack_Of_ok hw hR183 hy186
      refine o_call hf cb_14 rfl rfl hc188 (fun v192 w a hK189 hf => ?_)
      obtain ⟨I2_189, rvv190, rfl, hle193, hw, hR191⟩ := hK189
      replace hR2 := hR2.mono hle193
      replace hR183 := hR183.mono hle193
      replace hR4 := hR4.mono hle193
      replace hR6 := hR6.mono hle193
      refine o_run hf (r_move hf rfl) rfl fun a hf => ?_
      refine o_run hf (r_extract hf rfl rfl) rfl fun a hf => ?_
      refine o_run hf (r_extract hf rfl rfl) rfl fun a hf => ?_
      refine o_run hf (r_assign hf rfl) rfl fun a hf => ?_
      refine o_run hf (r_assign hf rfl) rfl fun a hf => ?_
      refine o_nil ?_
      refine c_then ?_
      refine wp_seq ?_
      refine wp_region_lit ?_
      refine o_run hf (r_move hf rfl) rfl fun a hf => ?_
      obtain ⟨y10399, hy10400, hp⟩ := bind_some hp
      have hc10402 := ref19_Of_ok hw hR2 hy10400
      refine o_call hf cb_15 rfl rfl hc10402 (fun v10406 w a hK10403 hf => ?_)
      obtain ⟨I2_10403, rvv10404, rfl, hle10407, hw, hR10405⟩ := hK10403
      replace hR2 := hR2.mono hle10407
      replace hR183 := hR183.mono hle10407
      replace hR191 := hR191.mono hle10407
      replace hR4 := hR4.mono hle10407
      replace hR6 := hR6.mono hle10407
      obtain ⟨b10408, w, hrun10409, hw⟩ := e_alloc (P := P) (a := a) hw ty_33
      replace hw : Ok E I2_10403 (.blk b10408 (.cells ⟨[Value.slice none 0 0, Value.bool false]⟩ 33 (0, 0)) :: .blk b1 (.cells ⟨[Value.string a2.prefix_, Value.int .i64 a2.top_, a2v3, a2v5]⟩ 26 (0, 0)) :: F) w := hw
      refine o_eff hf (hrun10409 ..) rfl fun a hf => ?_
      obtain ⟨w, hrun10411, hw⟩ := e_store (P := P) hw hf (x := .tmp 10) (y := .tmp 46) rfl rfl ty_33 0 rfl (vs := [rvv10404, Value.bool y10399.ok_]) rfl rfl (ones_cons hR10405.one (ones_cons rfl ones_nil)) (by simp [arrC_len]) (cs' := [rvv10404, Value.bool y10399.ok_]) rfl
      replace hw : Ok E I2_10403 (.blk b10408 (.cells ⟨[rvv10404, Value.bool y10399.ok_]⟩ 33 (0, 0)) :: .blk b1 (.cells ⟨[Value.string a2.prefix_, Value.int .i64 a2.top_, a2v3, a2v5]⟩ 26 (0, 0)) :: F) w := hw
      refine o_effU (hrun10411 ..) ?_
      refine o_nil ?_
      refine c_then ?_
      refine wp_seq ?_
      refine wp_region_lit ?_
      refine o_run hf (r_move hf rfl) rfl fun a hf => ?_
      refine o_run hf (r_move hf rfl) rfl fun a hf => ?_
      obtain ⟨y10415, hy10414, hp⟩ := bind_some hp
      obtain ⟨y10412, y10413⟩ := y10415
      have hc10416 := pack_Size_ok hw hR183 hy10414
      refine o_call hf cb_16 rfl rfl hc10416 (fun v10418 w a hK10417 hf => ?_)
      obtain ⟨rfl, hw⟩ := hK10417
      refine o_run hf (r_move hf rfl) rfl fun a hf => ?_
      refine o_run hf (r_extract hf rfl rfl) rfl fun a hf => ?_
      refine o_run hf (r_extract hf rfl rfl) rfl fun a hf => ?_
      refine o_run hf (r_assign hf rfl) rfl fun a hf => ?_
      refine o_run hf (r_assign hf rfl) rfl fun a hf => ?_
      refine o_nil ?_
      refine c_then ?_
      refine wp_seq ?_
      refine wp_region_lit ?_
      refine o_run hf (r_move hf rfl) rfl fun a hf => ?_
      refine o_run hf (r_move hf rfl) rfl fun a hf => ?_
      obtain ⟨y73, hy74, hp⟩ := bind_some hp
      have hc76 := ref19_Size_ok hw hR2 hy74
      refine o_call hf cb_17 rfl rfl hc76 (fun v78 w a hK77 hf => ?_)
      obtain ⟨rfl, hw⟩ := hK77
      refine o_run hf (r_assign hf rfl) rfl fun a hf => ?_
      refine o_nil ?_
      refine c_then ?_
      refine wp_seq ?_
      refine wp_region_lit ?_
      refine o_run hf (r_move hf rfl) rfl fun a hf => ?_
      refine o_run hf (r_loadA hw hf rfl ty_26 1 rfl (vs := [Value.string a2.prefix_, Value.int .i64 a2.top_, a2v3, a2v5]) rfl rfl) rfl fun a hf => ?_
      obtain ⟨y82, hy81, hp⟩ := bind_some hp
      obtain ⟨y79, y80⟩ := y82
      have hc83 := pack_Bytes_ok hw hR183 hR4 hR6 hy81
      refine o_call hf cb_18 rfl rfl hc83 (fun v85 w a hK84 hf => ?_)
      obtain ⟨rfl, hw⟩ := hK84
      refine o_run hf (r_move hf rfl) rfl fun a hf => ?_
      refine o_run hf (r_extract hf rfl rfl) rfl fun a hf => ?_
      refine o_run hf (r_extract hf rfl rfl) rfl fun a hf => ?_
      refine o_run hf (r_assign hf rfl) rfl fun a hf => ?_
      refine o_run hf (r_assign hf rfl) rfl fun a hf => ?_
      refine o_nil ?_
      refine c_then ?_
      refine wp_seq ?_
      refine wp_region_lit ?_
      refine o_run hf (r_move hf rfl) rfl fun a hf => ?_
      refine o_run hf (r_loadA hw hf rfl ty_26 1 rfl (vs := [Value.string a2.prefix_, Value.int .i64 a2.top_, a2v3, a2v5]) rfl rfl) rfl fun a hf => ?_
      obtain ⟨y1391, hy1392, hp⟩ := bind_some hp
      have hc1394 := ref19_Bytes_ok hw hR2 hR4 hR6 hy1392
      refine o_call hf cb_19 rfl rfl hc1394 (fun v1396 w a hK1395 hf => ?_)
      obtain ⟨rfl, hw⟩ := hK1395
      refine o_run hf (r_assign hf rfl) rfl fun a hf => ?_
      refine o_nil ?_
      refine c_then ?_
      obtain ⟨out68, hp, hq69⟩ := bind_some hp
      refine c_cut (fun a w => ∃ y67 : Bool, y67 = out68 ∧ Ok E I2_10403 (.blk b10408 (.cells ⟨[rvv10404, Value.bool y10399.ok_]⟩ 33 (0, 0)) :: .blk b1 (.cells ⟨[Value.string a2.prefix_, Value.int .i64 a2.top_, a2v3, a2v5]⟩ 26 (0, 0)) :: F) w ∧ Fr 107 ([(6, Value.bool y67)]) a) ?_ ?_
      · refine wp_region_lit ?_
        refine o_run hf (r_move hf rfl) rfl fun a hf => ?_
        refine o_run hf (r_fieldAddr hf rfl fd_33_0) rfl fun a hf => ?_
        refine o_run hf (r_load hw hf rfl ty_29 0 rfl rfl) rfl fun a hf => ?_
        obtain ⟨y70, hy71, hp⟩ := bind_some hp
        have hc73 := keep_Plans_ok hw hR191 hR10405 hy71
        refine o_call hf cb_20 rfl rfl hc73 (fun v75 w a hK74 hf => ?_)
        obtain ⟨rfl, hw⟩ := hK74
        refine o_run hf (r_move hf rfl) rfl fun a hf => ?_
        refine g_split hf (g := 69) rfl (fun hb76 hf => ?_) (fun hb76 hf => ?_)
        · replace hp := cond_t hb76 hp
          refine o_want hf (g := 69) rfl rfl ?_
          refine o_run hf (r_move hf rfl) rfl fun a hf => ?_
          refine o_want hf (g := 69) rfl rfl ?_
          refine o_run hf (r_fieldAddr hf rfl fd_33_1) rfl fun a hf => ?_
          refine o_want hf (g := 69) rfl rfl ?_
          refine o_run hf (r_load hw hf rfl ty_4 0 rfl rfl) rfl fun a hf => ?_
          refine o_want hf (g := 69) rfl rfl ?_
          refine o_run hf (r_beq hf und_4 rfl rfl) rfl fun a hf => ?_
          refine o_run hf (r_pickT hf rfl rfl) rfl fun a hf => ?_
          refine o_run hf (r_move hf rfl) rfl fun a hf => ?_
          refine g_split hf (g := 75) rfl (fun hb77 hf => ?_) (fun hb77 hf => ?_)
          · replace hp := cond_t hb77 hp
            refine o_want hf (g := 75) rfl rfl ?_
            refine o_run hf (r_move hf rfl) rfl fun a hf => ?_
            refine o_want hf (g := 75) rfl rfl ?_
            refine o_run hf (r_move hf rfl) rfl fun a hf => ?_
            refine o_want hf (g := 75) rfl rfl ?_
            refine o_run hf (r_icmp hf rfl rfl rfl) rfl fun a hf => ?_
            refine o_want hf (g := 75) rfl rfl ?_
            refine o_run hf (r_beq hf und_4 rfl rfl) rfl fun a hf => ?_
            refine o_run hf (r_pickT hf rfl rfl) rfl fun a hf => ?_
            refine o_run hf (r_move hf rfl) rfl fun a hf => ?_
            refine g_split hf (g := 81) rfl (fun hb78 hf => ?_) (fun hb78 hf => ?_)
            · replace hp := cond_t hb78 hp
              refine o_want hf (g := 81) rfl rfl ?_
              refine o_run hf (r_move hf rfl) rfl fun a hf => ?_
              refine o_want hf (g := 81) rfl rfl ?_
              refine o_run hf (r_move hf rfl) rfl fun a hf => ?_
              refine o_want hf (g := 81) rfl rfl ?_
              refine o_run hf (r_max hf rfl rfl) rfl fun a hf => ?_
              refine o_want hf (g := 81) rfl rfl ?_
              refine o_run hf (r_icmp hf rfl rfl rfl) rfl fun a hf => ?_
              refine o_run hf (r_pickT hf rfl rfl) rfl fun a hf => ?_
              refine o_run hf (r_move hf rfl) rfl fun a hf => ?_
              refine g_split hf (g := 87) rfl (fun hb79 hf => ?_) (fun hb79 hf => ?_)
              · replace hp := cond_t hb79 hp
                refine o_want hf (g := 87) rfl rfl ?_
                refine o_run hf (r_move hf rfl) rfl fun a hf => ?_
                refine o_want hf (g := 87) rfl rfl ?_
                refine o_run hf (r_move hf rfl) rfl fun a hf => ?_
                refine o_want hf (g := 87) rfl rfl ?_
                refine o_run hf (r_icmp hf rfl rfl rfl) rfl fun a hf => ?_
                refine o_want hf (g := 87) rfl rfl ?_
                refine o_run hf (r_beq hf und_4 rfl rfl) rfl fun a hf => ?_
                refine o_run hf (r_pickT hf rfl rfl) rfl fun a hf => ?_
                refine o_run hf (r_move hf rfl) rfl fun a hf => ?_
                refine g_split hf (g := 93) rfl (fun hb80 hf => ?_) (fun hb80 hf => ?_)
                · replace hp := cond_t hb80 hp
                  refine o_want hf (g := 93) rfl rfl ?_
                  refine o_run hf (r_move hf rfl) rfl fun a hf => ?_
                  refine o_want hf (g := 93) rfl rfl ?_
                  refine o_run hf (r_move hf rfl) rfl fun a hf => ?_
                  refine o_want hf (g := 93) rfl rfl ?_
                  refine o_run hf (r_max hf rfl rfl) rfl fun a hf => ?_
                  refine o_want hf (g := 93) rfl rfl ?_
                  refine o_run hf (r_icmp hf rfl rfl rfl) rfl fun a hf => ?_
                  refine o_run hf (r_pickT hf rfl rfl) rfl fun a hf => ?_
                  refine o_run hf (r_move hf rfl) rfl fun a hf => ?_
                  refine g_split hf (g := 99) rfl (fun hb81 hf => ?_) (fun hb81 hf => ?_)
                  · replace hp := cond_t hb81 hp
                    refine o_want hf (g := 99) rfl rfl ?_
                    refine o_run hf (r_move hf rfl) rfl fun a hf => ?_
                    refine o_want hf (g := 99) rfl rfl ?_
                    refine o_run hf (r_move hf rfl) rfl fun a hf => ?_
                    refine o_want hf (g := 99) rfl rfl ?_
                    obtain ⟨y82, hy83, hp⟩ := bind_some hp
                    have hc85 := keep_Trie_ok hw hR183 hR2 hy83
                    refine o_call hf cb_21 rfl rfl hc85 (fun v87 w a hK86 hf => ?_)
                    obtain ⟨rfl, hw⟩ := hK86
                    refine o_run hf (r_pickT hf rfl rfl) rfl fun a hf => ?_
                    refine o_run hf (r_move hf rfl) rfl fun a hf => ?_
                    refine g_split hf (g := 104) rfl (fun hb88 hf => ?_) (fun hb88 hf => ?_)
                    · replace hp := cond_t hb88 hp
                      refine o_want hf (g := 104) rfl rfl ?_
                      obtain ⟨y89, hy90, hp⟩ := bind_some hp
                      have hc92 := law19_wakes_ok hw hy90
                      refine o_call hf cb_13 rfl rfl hc92 (fun v94 w a hK93 hf => ?_)
                      obtain ⟨rfl, hw⟩ := hK93
                      refine o_run hf (r_pickT hf rfl rfl) rfl fun a hf => ?_
                      refine o_run hf (r_assign hf rfl) rfl fun a hf => ?_
                      refine o_nil ?_
                      refine c_then ?_
                      have ho := out_inj hp
                      subst ho
                      exact ⟨y89, rfl, hw, hf.to ⟨rfl, trivial⟩⟩
                    · replace hp := cond_f hb88 hp
                      refine o_skip hf (g := 104) rfl rfl rfl rfl rfl rfl fun a hf => ?_
                      refine o_run hf (r_pickF hf rfl rfl) rfl fun a hf => ?_
                      refine o_run hf (r_assign hf rfl) rfl fun a hf => ?_
                      refine o_nil ?_
                      refine c_then ?_
                      have ho := out_inj hp
                      subst ho
                      exact ⟨false, rfl, hw, hf.to ⟨rfl, trivial⟩⟩
                  · replace hp := cond_f hb81 hp
                    refine o_skip hf (g := 99) rfl rfl rfl rfl rfl rfl fun a hf => ?_
                    refine o_skip hf (g := 99) rfl rfl rfl rfl rfl rfl fun a hf => ?_
                    refine o_skip hf (g := 99) rfl rfl rfl rfl rfl rfl fun a hf => ?_
                    refine o_run hf (r_pickF hf rfl rfl) rfl fun a hf => ?_
                    refine o_run hf (r_move hf rfl) rfl fun a hf => ?_
                    refine o_skip hf (g := 104) rfl rfl rfl rfl rfl rfl fun a hf => ?_
                    refine o_run hf (r_pickF hf rfl rfl) rfl fun a hf => ?_
                    refine o_run hf (r_assign hf rfl) rfl fun a hf => ?_
                    refine o_nil ?_
                    refine c_then ?_
                    have ho := out_inj hp
                    subst ho
                    exact ⟨false, rfl, hw, hf.to ⟨rfl, trivial⟩⟩
                · replace hp := cond_f hb80 hp
                  refine o_skip hf (g := 93) rfl rfl rfl rfl rfl rfl fun a hf => ?_
                  refine o_skip hf (g := 93) rfl rfl rfl rfl rfl rfl fun a hf => ?_
                  refine o_skip hf (g := 93) rfl rfl rfl rfl rfl rfl fun a hf => ?_
                  refine o_skip hf (g := 93) rfl rfl rfl rfl rfl rfl fun a hf => ?_
                  refine o_run hf (r_pickF hf rfl rfl) rfl fun a hf => ?_
                  refine o_run hf (r_move hf rfl) rfl fun a hf => ?_
                  refine o_skip hf (g := 99) rfl rfl rfl rfl rfl rfl fun a hf => ?_
                  refine o_skip hf (g := 99) rfl rfl rfl rfl rfl rfl fun a hf => ?_
                  refine o_skip hf (g := 99) rfl rfl rfl rfl rfl rfl fun a hf => ?_
                  refine o_run hf (r_pickF hf rfl rfl) rfl fun a hf => ?_
                  refine o_run hf (r_move hf rfl) rfl fun a hf => ?_
                  refine o_skip hf (g := 104) rfl rfl rfl rfl rfl rfl fun a hf => ?_
                  refine o_run hf (r_pickF hf rfl rfl) rfl fun a hf => ?_
                  refine o_run hf (r_assign hf rfl) rfl fun a hf => ?_
                  refine o_nil ?_
                  refine c_then ?_
                  have ho := out_inj hp
                  subst ho
                  exact ⟨false, rfl, hw, hf.to ⟨rfl, trivial⟩⟩
              · replace hp := cond_f hb79 hp
                refine o_skip hf (g := 87) rfl rfl rfl rfl rfl rfl fun a hf => ?_
                refine o_skip hf (g := 87) rfl rfl rfl rfl rfl rfl fun a hf => ?_
                refine o_skip hf (g := 87) rfl rfl rfl rfl rfl rfl fun a hf => ?_
                refine o_skip hf (g := 87) rfl rfl rfl rfl rfl rfl fun a hf => ?_
                refine o_run hf (r_pickF hf rfl rfl) rfl fun a hf => ?_
                refine o_run hf (r_move hf rfl) rfl fun a hf => ?_
                refine o_skip hf (g := 93) rfl rfl rfl rfl rfl rfl fun a hf => ?_
                refine o_skip hf (g := 93) rfl rfl rfl rfl rfl rfl fun a hf => ?_
                refine o_skip hf (g := 93) rfl rfl rfl rfl rfl rfl fun a hf => ?_
                refine o_skip hf (g := 93) rfl rfl rfl rfl rfl rfl fun a hf => ?_
                refine o_run hf (r_pickF hf rfl rfl) rfl fun a hf => ?_
                refine o_run hf (r_move hf rfl) rfl fun a hf => ?_
                refine o_skip hf (g := 99) rfl rfl rfl rfl rfl rfl fun a hf => ?_
                refine o_skip hf (g := 99) rfl rfl rfl rfl rfl rfl fun a hf => ?_
                refine o_skip hf (g := 99) rfl rfl rfl rfl rfl rfl fun a hf => ?_
                refine o_run hf (r_pickF hf rfl rfl) rfl fun a hf => ?_
                refine o_run hf (r_move hf rfl) rfl fun a hf => ?_
                refine o_skip hf (g := 104) rfl rfl rfl rfl rfl rfl fun a hf => ?_
                refine o_run hf (r_pickF hf rfl rfl) rfl fun a hf => ?_
                refine o_run hf (r_assign hf rfl) rfl fun a hf => ?_
                refine o_nil ?_
                refine c_then ?_
                have ho := out_inj hp
                subst ho
                exact ⟨false, rfl, hw, hf.to ⟨rfl, trivial⟩⟩
            · replace hp := cond_f hb78 hp
              refine o_skip hf (g := 81) rfl rfl rfl rfl rfl rfl fun a hf => ?_
              refine o_skip hf (g := 81) rfl rfl rfl rfl rfl rfl fun a hf => ?_
              refine o_skip hf (g := 81) rfl rfl rfl rfl rfl rfl fun a hf => ?_
              refine o_skip hf (g := 81) rfl rfl rfl rfl rfl rfl fun a hf => ?_
              refine o_run hf (r_pickF hf rfl rfl) rfl fun a hf => ?_
              refine o_run hf (r_move hf rfl) rfl fun a hf => ?_
              refine o_skip hf (g := 87) rfl rfl rfl rfl rfl rfl fun a hf => ?_
              refine o_skip hf (g := 87) rfl rfl rfl rfl rfl rfl fun a hf => ?_
              refine o_skip hf (g := 87) rfl rfl rfl rfl rfl rfl fun a hf => ?_
              refine o_skip hf (g := 87) rfl rfl rfl rfl rfl rfl fun a hf => ?_
              refine o_run hf (r_pickF hf rfl rfl) rfl fun a hf => ?_
              refine o_run hf (r_move hf rfl) rfl fun a hf => ?_
              refine o_skip hf (g := 93) rfl rfl rfl rfl rfl rfl fun a hf => ?_
              refine o_skip hf (g := 93) rfl rfl rfl rfl rfl rfl fun a hf => ?_
              refine o_skip hf (g := 93) rfl rfl rfl rfl rfl rfl fun a hf => ?_
              refine o_skip hf (g := 93) rfl rfl rfl rfl rfl rfl fun a hf => ?_
              refine o_run hf (r_pickF hf rfl rfl) rfl fun a hf => ?_
              refine o_run hf (r_move hf rfl) rfl fun a hf => ?_
              refine o_skip hf (g := 99) rfl rfl rfl rfl rfl rfl fun a hf => ?_
              refine o_skip hf (g := 99) rfl rfl rfl rfl rfl rfl fun a hf => ?_
              refine o_skip hf (g := 99) rfl rfl rfl rfl rfl rfl fun a hf => ?_
              refine o_run hf (r_pickF hf rfl rfl) rfl fun a hf => ?_
              refine o_run hf (r_move hf rfl) rfl fun a hf => ?_
              refine o_skip hf (g := 104) rfl rfl rfl rfl rfl rfl fun a hf => ?_
              refine o_run hf (r_pickF hf rfl rfl) rfl fun a hf => ?_
              refine o_run hf (r_assign hf rfl) rfl fun a hf => ?_
              refine o_nil ?_
              refine c_then ?_
              have ho := out_inj hp
              subst ho
              exact ⟨false, rfl, hw, hf.to ⟨rfl, trivial⟩⟩
          · replace hp := cond_f hb77 hp
            refine o_skip hf (g := 75) rfl rfl rfl rfl rfl rfl fun a hf => ?_
            refine o_skip hf (g := 75) rfl rfl rfl rfl rfl rfl fun a hf => ?_
            refine o_skip hf (g := 75) rfl rfl rfl rfl rfl rfl fun a hf => ?_
            refine o_skip hf (g := 75) rfl rfl rfl rfl rfl rfl fun a hf => ?_
            refine o_run hf (r_pickF hf rfl rfl) rfl fun a hf => ?_
            refine o_run hf (r_move hf rfl) rfl fun a hf => ?_
            refine o_skip hf (g := 81) rfl rfl rfl rfl rfl rfl fun a hf => ?_
            refine o_skip hf (g := 81) rfl rfl rfl rfl rfl rfl fun a hf => ?_
            refine o_skip hf (g := 81) rfl rfl rfl rfl rfl rfl fun a hf => ?_
            refine o_skip hf (g := 81) rfl rfl rfl rfl rfl rfl fun a hf => ?_
            refine o_run hf (r_pickF hf rfl rfl) rfl fun a hf => ?_
            refine o_run hf (r_move hf rfl) rfl fun a hf => ?_
            refine o_skip hf (g := 87) rfl rfl rfl rfl rfl rfl fun a hf => ?_
            refine o_skip hf (g := 87) rfl rfl rfl rfl rfl rfl fun a hf => ?_
            refine o_skip hf (g := 87) rfl rfl rfl rfl rfl rfl fun a hf => ?_
            refine o_skip hf (g := 87) rfl rfl rfl rfl rfl rfl fun a hf => ?_
            refine o_run hf (r_pickF hf rfl rfl) rfl fun a hf => ?_
            refine o_run hf (r_move hf rfl) rfl fun a hf => ?_
            refine o_skip hf (g := 93) rfl rfl rfl rfl rfl rfl fun a hf => ?_
            refine o_skip hf (g := 93) rfl rfl rfl rfl rfl rfl fun a hf => ?_
            refine o_skip hf (g := 93) rfl rfl rfl rfl rfl rfl fun a hf => ?_
            refine o_skip hf (g := 93) rfl rfl rfl rfl rfl rfl fun a hf => ?_
            refine o_run hf (r_pickF hf rfl rfl) rfl fun a hf => ?_
            refine o_run hf (r_move hf rfl) rfl fun a hf => ?_
            refine o_skip hf (g := 99) rfl rfl rfl rfl rfl rfl fun a hf => ?_
            refine o_skip hf (g := 99) rfl rfl rfl rfl rfl rfl fun a hf => ?_
            refine o_skip hf (g := 99) rfl rfl rfl rfl rfl rfl fun a hf => ?_
            refine o_run hf (r_pickF hf rfl rfl) rfl fun a hf => ?_
            refine o_run hf (r_move hf rfl) rfl fun a hf => ?_
            refine o_skip hf (g := 104) rfl rfl rfl rfl rfl rfl fun a hf => ?_
            refine o_run hf (r_pickF hf rfl rfl) rfl fun a hf => ?_
            refine o_run hf (r_assign hf rfl) rfl fun a hf => ?_
            refine o_nil ?_
            refine c_then ?_
            have ho := out_inj hp
            subst ho
            exact ⟨false, rfl, hw, hf.to ⟨rfl, trivial⟩⟩
        · replace hp := cond_f hb76 hp
          refine o_skip hf (g := 69) rfl rfl rfl rfl rfl rfl fun a hf => ?_
          refine o_skip hf (g := 69) rfl rfl rfl rfl rfl rfl fun a hf => ?_
          refine o_skip hf (g := 69) rfl rfl rfl rfl rfl rfl fun a hf => ?_
          refine o_skip hf (g := 69) rfl rfl rfl rfl rfl rfl fun a hf => ?_
          refine o_run hf (r_pickF hf rfl rfl) rfl fun a hf => ?_
          refine o_run hf (r_move hf rfl) rfl fun a hf => ?_
          refine o_skip hf (g := 75) rfl rfl rfl rfl rfl rfl fun a hf => ?_
          refine o_skip hf (g := 75) rfl rfl rfl rfl rfl rfl fun a hf => ?_
          refine o_skip hf (g := 75) rfl rfl rfl rfl rfl rfl fun a hf => ?_
          refine o_skip hf (g := 75) rfl rfl rfl rfl rfl rfl fun a hf => ?_
          refine o_run hf (r_pickF hf rfl rfl) rfl fun a hf => ?_
          refine o_run hf (r_move hf rfl) rfl fun a hf => ?_
          refine o_skip hf (g := 81) rfl rfl rfl rfl rfl rfl fun a hf => ?_
          refine o_skip hf (g := 81) rfl rfl rfl rfl rfl rfl fun a hf => ?_
          refine o_skip hf (g := 81) rfl rfl rfl rfl rfl rfl fun a hf => ?_
          refine o_skip hf (g := 81) rfl rfl rfl rfl rfl rfl fun a hf => ?_
          refine o_run hf (r_pickF hf rfl rfl) rfl fun a hf => ?_
          refine o_run hf (r_move hf rfl) rfl fun a hf => ?_
          refine o_skip hf (g := 87) rfl rfl rfl rfl rfl rfl fun a hf => ?_
          refine o_skip hf (g := 87) rfl rfl rfl rfl rfl rfl fun a hf => ?_
          refine o_skip hf (g := 87) rfl rfl rfl rfl rfl rfl fun a hf => ?_
          refine o_skip hf (g := 87) rfl rfl rfl rfl rfl rfl fun a hf => ?_
          refine o_run hf (r_pickF hf rfl rfl) rfl fun a hf => ?_
          refine o_run hf (r_move hf rfl) rfl fun a hf => ?_
          refine o_skip hf (g := 93) rfl rfl rfl rfl rfl rfl fun a hf => ?_
          refine o_skip hf (g := 93) rfl rfl rfl rfl rfl rfl fun a hf => ?_
          refine o_skip hf (g := 93) rfl rfl rfl rfl rfl rfl fun a hf => ?_
          refine o_skip hf (g := 93) rfl rfl rfl rfl rfl rfl fun a hf => ?_
          refine o_run hf (r_pickF hf rfl rfl) rfl fun a hf => ?_
          refine o_run hf (r_move hf rfl) rfl fun a hf => ?_
          refine o_skip hf (g := 99) rfl rfl rfl rfl rfl rfl fun a hf => ?_
          refine o_skip hf (g := 99) rfl rfl rfl rfl rfl rfl fun a hf => ?_
          refine o_skip hf (g := 99) rfl rfl rfl rfl rfl rfl fun a hf => ?_
          refine o_run hf (r_pickF hf rfl rfl) rfl fun a hf => ?_
          refine o_run hf (r_move hf rfl) rfl fun a hf => ?_
          refine o_skip hf (g := 104) rfl rfl rfl rfl rfl rfl fun a hf => ?_
          refine o_run hf (r_pickF hf rfl rfl) rfl fun a hf => ?_
          refine o_run hf (r_assign hf rfl) rfl fun a hf => ?_
          refine o_nil ?_
          refine c_then ?_
          have ho := out_inj hp
          subst ho
          exact ⟨false, rfl, hw, hf.to ⟨rfl, trivial⟩⟩
      · intro a w hM
        obtain ⟨y67, rfl, hw, hf⟩ := hM
        replace hp := hq69
        refine wp_ret ?_
        replace hw : Ok E I2_10403 (F) w := hw.sub (List.Sublist.cons _ (List.Sublist.cons _ (List.Sublist.refl _)))
        have ho := out_inj hp
        subst ho
        exact b_ret1 hf Go.Proofs.Try.results3 rfl ⟨_, rfl, ⟨rfl, (hw.back (IH.le_trans (IH.le_trans hle182 hle193) hle10407) (List.Sublist.refl _))⟩⟩
end Go.Lf
