/- The Go functions compute the plain Lean functions (printed by our lift.py). -/
import Derived.Test.YtckhmgglgbnaaaaZD
import Derived.Test.YtckhmgglgbnaaaaZF
import Derived.Test.YtckhmgglgbnaaaaZK1
import Derived.Test.YtckhmgglgbnaaaaZK6
import Derived.Test.YtckhmgglgbnaaaaZK7
set_option linter.unusedVariables false
set_option linter.unusedSimpArgs false
namespace Go.Lf
open Go
set_option maxHeartbeats 1000000 in
set_option maxRecDepth 20000 in
theorem law19_wakes_ok {E : World} {I : IH} {F : List Atom} {w : World} {res0 : Bool} (hw : Ok E I (F) w) (hp : law19_wakes.f = some res0) :
    Calls P 13 ⟨[]⟩ w fun e w' => ∃ v, e = .returned v ∧ v = Value.bool res0 ∧ Ok E I (F) w' := by
  refine c_enter Go.Proofs.Try.func13 rfl Go.Proofs.Try.ntmps13 rfl fun a hf => ?_
  replace hf : Fr 112 [] a := hf
  unfold law19_wakes.f at hp
  refine wp_seq ?_
  refine wp_region_lit ?_
  refine o_run hf (r_assign hf rfl) rfl fun a hf => ?_
  refine o_nil ?_
  refine c_then ?_
  refine wp_seq ?_
  refine wp_region_lit ?_
  refine o_run hf (r_build hf bd_55 (vs := [Value.string (⟨#[97]⟩ : ByteArray), Value.string (⟨#[49]⟩ : ByteArray)]) rfl ⟨rfl, rfl, trivial⟩ (by decide) (out := [Value.string (⟨#[97]⟩ : ByteArray), Value.string (⟨#[49]⟩ : ByteArray)]) rfl) rfl fun a hf => ?_
  refine o_run hf (r_build hf bd_55 (vs := [Value.string (⟨#[98]⟩ : ByteArray)]) rfl ⟨rfl, trivial⟩ (by decide) (out := [Value.string (⟨#[98]⟩ : ByteArray), Value.string (⟨#[]⟩ : ByteArray)]) rfl) rfl fun a hf => ?_
  obtain ⟨w, v1, hrun2, hw, hRR3⟩ := e_buildSlice (P := P) (K := ek_Pair) (m := 2) hw hf (parts := [(0, .tmp 14), (1, .tmp 15)]) el_43 ty_55 rfl rfl rfl (ccs := [[Value.string (⟨#[97]⟩ : ByteArray), Value.string (⟨#[49]⟩ : ByteArray)], [Value.string (⟨#[98]⟩ : ByteArray), Value.string (⟨#[]⟩ : ByteArray)]]) rfl (xs := [(⟨(⟨#[97]⟩ : ByteArray), (⟨#[49]⟩ : ByteArray)⟩ : Pair), (⟨(⟨#[98]⟩ : ByteArray), (⟨#[]⟩ : ByteArray)⟩ : Pair)]) ⟨rfl, rfl, trivial⟩ rfl
  obtain ⟨cs4, hcs⟩ : ∃ cs, cs = ([[Value.string (⟨#[97]⟩ : ByteArray), Value.string (⟨#[49]⟩ : ByteArray)], [Value.string (⟨#[98]⟩ : ByteArray), Value.string (⟨#[]⟩ : ByteArray)]] : List (List Value)).flatten := ⟨_, rfl⟩
  rw [← hcs] at hw hRR3; clear hcs
  refine o_eff hf (hrun2 ..) rfl fun a hf => ?_
  have hw : Ok E I (.row v1 55 2 2 cs4 :: F) w := hw.front (i := 0) rfl
  obtain ⟨I1101, hle1102, hw, hR1103⟩ := row_freeze (K := ek_Pair) hw hRR3
  obtain ⟨y1104, hy1105, hp⟩ := bind_some hp
  have hc1107 := ref10_Build_ok hw hR1103 hy1105
  refine o_call hf cb_24 rfl rfl hc1107 (fun v1113 w a hK1108 hf => ?_)
  obtain ⟨I2_1108, rvv1109, rvv1111, rfl, hle1114, hw, hR1110, hR1112⟩ := hK1108
  replace hR1103 := hR1103.mono hle1114
  refine o_run hf (r_field hf rfl fd_47_0 ty_23 rfl) rfl fun a hf => ?_
  refine o_run hf (r_assign hf rfl) rfl fun a hf => ?_
  refine o_nil ?_
  refine c_then ?_
  refine wp_seq ?_
  refine wp_region_lit ?_
  refine o_run hf (r_move hf rfl) rfl fun a hf => ?_
  obtain ⟨y310, hy309, hp⟩ := bind_some hp
  obtain ⟨y307, y308⟩ := y310
  have hc311 := pack_Of_ok hw hR1110 hy309
  refine o_call hf cb_14 rfl rfl hc311 (fun v315 w a hK312 hf => ?_)
  obtain ⟨I2_312, rvv313, rfl, hle316, hw, hR314⟩ := hK312
  replace hR1103 := hR1103.mono hle316
  replace hR1110 := hR1110.mono hle316
  replace hR1112 := hR1112.mono hle316
  refine o_run hf (r_move hf rfl) rfl fun a hf => ?_
  refine o_run hf (r_extract hf rfl rfl) rfl fun a hf => ?_
  refine o_run hf (r_extract hf rfl rfl) rfl fun a hf => ?_
  refine o_run hf (r_assign hf rfl) rfl fun a hf => ?_
  refine o_run hf (r_assign hf rfl) rfl fun a hf => ?_
  refine o_nil ?_
  refine c_then ?_
  refine wp_seq ?_
  refine wp_region_lit ?_
  refine o_run hf (r_move hf rfl) rfl fun a hf => ?_
  obtain ⟨y81, hy80, hp⟩ := bind_some hp
  obtain ⟨y78, y79⟩ := y81
  have hc82 := pack_Size_ok hw hR1110 hy80
  refine o_call hf cb_16 rfl rfl hc82 (fun v84 w a hK83 hf => ?_)
  obtain ⟨rfl, hw⟩ := hK83
  refine o_run hf (r_move hf rfl) rfl fun a hf => ?_
  refine o_run hf (r_extract hf rfl rfl) rfl fun a hf => ?_
  refine o_run hf (r_extract hf rfl rfl) rfl fun a hf => ?_
  refine o_run hf (r_assign hf rfl) rfl fun a hf => ?_
  refine o_run hf (r_assign hf rfl) rfl fun a hf => ?_
  refine o_nil ?_
  refine c_then ?_
  refine wp_seq ?_
  refine wp_region_lit ?_
  refine o_run hf (r_move hf rfl) rfl fun a hf => ?_
  obtain ⟨y88, hy87, hp⟩ := bind_some hp
  obtain ⟨y85, y86⟩ := y88
  have hc89 := pack_Size_ok hw hR1110 hy87
  refine o_call hf cb_16 rfl rfl hc89 (fun v91 w a hK90 hf => ?_)
  obtain ⟨rfl, hw⟩ := hK90
  refine o_run hf (r_move hf rfl) rfl fun a hf => ?_
  refine o_run hf (r_extract hf rfl rfl) rfl fun a hf => ?_
  refine o_run hf (r_extract hf rfl rfl) rfl fun a hf => ?_
  refine o_run hf (r_assign hf rfl) rfl fun a hf => ?_
  refine o_run hf (r_assign hf rfl) rfl fun a hf => ?_
  refine o_nil ?_
  refine c_then ?_
  refine wp_seq ?_
  refine wp_region_lit ?_
  obtain ⟨y95, hy94, hp⟩ := bind_some hp
  obtain ⟨y92, y93⟩ := y95
  have hc96 := pack_Of_ok hw (RS.nil (K := ek_Node)) hy94
  refine o_call hf cb_14 rfl rfl hc96 (fun v100 w a hK97 hf => ?_)
  obtain ⟨I2_97, rvv98, rfl, hle101, hw, hR99⟩ := hK97
  replace hR1103 := hR1103.mono hle101
  replace hR1110 := hR1110.mono hle101
  replace hR1112 := hR1112.mono hle101
  replace hR314 := hR314.mono hle101
  refine o_run hf (r_move hf rfl) rfl fun a hf => ?_
  refine o_run hf (r_extract hf rfl rfl) rfl fun a hf => ?_
  refine o_run hf (r_extract hf rfl rfl) rfl fun a hf => ?_
  refine o_run hf (r_assign hf rfl) rfl fun a hf => ?_
  refine o_run hf (r_assign hf rfl) rfl fun a hf => ?_
  refine o_nil ?_
  refine c_then ?_
  refine wp_seq ?_
  refine wp_region_lit ?_
  refine o_run hf (r_move hf rfl) rfl fun a hf => ?_
  obtain ⟨y105, hy104, hp⟩ := bind_some hp
  obtain ⟨y102, y103⟩ := y105
  have hc106 := pack_Size_ok hw hR1110 hy104
  refine o_call hf cb_16 rfl rfl hc106 (fun v108 w a hK107 hf => ?_)
  obtain ⟨rfl, hw⟩ := hK107
  refine o_run hf (r_move hf rfl) rfl fun a hf => ?_
  refine o_run hf (r_extract hf rfl rfl) rfl fun a hf => ?_
  refine o_run hf (r_extract hf rfl rfl) rfl fun a hf => ?_
  refine o_run hf (r_assign hf rfl) rfl fun a hf => ?_
  refine o_run hf (r_assign hf rfl) rfl fun a hf => ?_
  refine o_nil ?_
  refine c_then ?_
  refine wp_seq ?_
  obtain ⟨out119, hp, hq120⟩ := bind_some hp
  refine c_cut (fun a w => ∃ y118 : Bool, y118 = out119 ∧ Ok E I2_97 (F) w ∧ Fr 112 ([(1, rvv1109), (2, rvv313), (4, Value.int .i64 y78), (5, Value.bool y79), (6, Value.int .i64 y85), (7, Value.bool y86), (8, rvv98), (9, Value.bool y93), (11, Value.bool y103), (49, Value.bool y118)]) a) ?_ ?_
  · refine wp_region_lit ?_
    refine o_run hf (r_move hf rfl) rfl fun a hf => ?_
    refine o_run hf (r_not hf rfl) rfl fun a hf => ?_
    refine o_run hf (r_move hf rfl) rfl fun a hf => ?_
    refine g_split hf (g := 45) rfl (fun hb121 hf => ?_) (fun hb121 hf => ?_)
    · replace hp := cond_t hb121 hp
      refine o_skip hf (g := 45) rfl rfl rfl rfl rfl rfl fun a hf => ?_
      refine o_skip hf (g := 45) rfl rfl rfl rfl rfl rfl fun a hf => ?_
      refine o_skip hf (g := 45) rfl rfl rfl rfl rfl rfl fun a hf => ?_
      refine o_run hf (r_pickT hf rfl rfl) rfl fun a hf => ?_
      refine o_nil ?_
      refine c_then ?_
      have ho := out_inj hp
      subst ho
      exact ⟨true, rfl, hw, hf.to ⟨rfl, rfl, rfl, rfl, rfl, rfl, rfl, rfl, rfl, rfl, trivial⟩⟩
    · replace hp := cond_f hb121 hp
      refine o_want hf (g := 45) rfl rfl ?_
      refine o_run hf (r_move hf rfl) rfl fun a hf => ?_
      refine o_want hf (g := 45) rfl rfl ?_
      refine o_run hf (r_lenL (K := ek_Plan) hf el_29 rfl (hR314.rd hw)) rfl fun a hf => ?_
      refine o_want hf (g := 45) rfl rfl ?_
      refine o_run hf (r_icmp hf rfl rfl rfl) rfl fun a hf => ?_
      refine o_run hf (r_pickF hf rfl rfl) rfl fun a hf => ?_
      refine o_nil ?_
      refine c_then ?_
      have ho := out_inj hp
      subst ho
      exact ⟨((y307.length : Int) != 1), rfl, hw, hf.to ⟨rfl, rfl, rfl, rfl, rfl, rfl, rfl, rfl, rfl, rfl, trivial⟩⟩
  · intro a w hM
    obtain ⟨y118, rfl, hw, hf⟩ := hM
    replace hp := hq120
    refine c_cond hf rfl (fun hb122 => ?_) (fun hb122 => ?_)
    · replace hp := cond_t hb122 hp
      refine wp_seq ?_
      refine wp_region_lit ?_
      refine o_run hf (r_assign hf rfl) rfl fun a hf => ?_
      refine o_nil ?_
      refine c_then ?_
      refine wp_ret ?_
      refine c_thenR ?_
      have ho := out_inj hp
      subst ho
      exact b_ret1 hf Go.Proofs.Try.results13 rfl ⟨_, rfl, ⟨rfl, (hw.back (IH.le_trans (IH.le_trans (IH.le_trans hle1102 hle1114) hle316) hle101) (List.Sublist.refl _))⟩⟩
    · replace hp := cond_f hb122 hp
      refine wp_skip ?_
      refine c_then ?_
      refine wp_seq ?_
      refine wp_region_lit ?_
      refine o_run hf (r_move hf rfl) rfl fun a hf => ?_
      refine o_run hf (r_move hf rfl) rfl fun a hf => ?_
      obtain ⟨hg123, hp⟩ := gd_some hp
      refine o_run hf (r_indexAddr (K := ek_Plan) hf el_29 rfl rfl (hR314.rd hw) hg123) rfl fun a hf => ?_
      obtain ⟨_, ⟨vv124, vv126, rfl, hR125, hR127⟩, hrun129⟩ := rs_loadHA (P := P) ty_26 hR314 hg123 rfl (fun cs h => Plan_all h)
      refine o_run hf (hrun129 _ _ _ _ _ _ _ _ _ _ _ _ hw hf rfl) rfl fun a hf => ?_
      obtain ⟨y350, hy349, hp⟩ := bind_some hp
      obtain ⟨y347, y348⟩ := y350
      have hc351 := pack_Bytes_ok hw hR1110 hR125 hR127 hy349
      refine o_call hf cb_18 rfl rfl hc351 (fun v353 w a hK352 hf => ?_)
      obtain ⟨rfl, hw⟩ := hK352
      refine o_run hf (r_move hf rfl) rfl fun a hf => ?_
      refine o_run hf (r_extract hf rfl rfl) rfl fun a hf => ?_
      refine o_run hf (r_extract hf rfl rfl) rfl fun a hf => ?_
      refine o_run hf (r_assign hf rfl) rfl fun a hf => ?_
      refine o_run hf (r_assign hf rfl) rfl fun a hf => ?_
      refine o_nil ?_
      refine c_then ?_
      obtain ⟨out90, hp, hq91⟩ := bind_some hp
      refine c_cut (fun a w => ∃ y89 : Bool, ∃ I88 : IH, y89 = out90 ∧ IH.le I2_97 I88 ∧ Ok E I88 (F) w ∧ Fr 112 ([(0, Value.bool y89)]) a) ?_ ?_
      · refine wp_region_lit ?_
        refine o_run hf (r_move hf rfl) rfl fun a hf => ?_
        obtain ⟨hg92, hp⟩ := gd_some hp
        refine o_run hf (r_indexAddr (K := ek_Plan) hf el_29 rfl rfl (hR314.rd hw) hg92) rfl fun a hf => ?_
        refine o_run hf (r_fieldAddrH hf rfl fd_26_2) rfl fun a hf => ?_
        obtain ⟨v93, hR94, hrun95⟩ := rs_loadHX (P := P) ty_24 hR314 hg92 rfl (fun cs h => Plan_f2 h)
        refine o_run hf (hrun95 _ _ _ _ _ _ _ _ _ _ _ _ hw hf rfl) rfl fun a hf => ?_
        obtain ⟨w, v96, hrun97, hw, hRR98⟩ := e_buildSlice (P := P) (K := (ekI .i64)) (m := 4) hw hf (parts := [(0, .const (Value.int .i64 0)), (1, .const (Value.int .i64 1)), (2, .const (Value.int .i64 2)), (3, .const (Value.int .i64 3))]) el_24 ty_3 rfl rfl rfl (ccs := [[Value.int .i64 0], [Value.int .i64 1], [Value.int .i64 2], [Value.int .i64 3]]) rfl (xs := [0, 1, 2, 3]) ⟨rfl, rfl, rfl, rfl, trivial⟩ rfl
        obtain ⟨cs99, hcs⟩ : ∃ cs, cs = ([[Value.int .i64 0], [Value.int .i64 1], [Value.int .i64 2], [Value.int .i64 3]] : List (List Value)).flatten := ⟨_, rfl⟩
        rw [← hcs] at hw hRR98; clear hcs
        refine o_eff hf (hrun97 ..) rfl fun a hf => ?_
        have hw : Ok E I2_97 (.row v96 3 1 4 cs99 :: F) w := hw.front (i := 0) rfl
        obtain ⟨I101, hle102, hw, hR103⟩ := row_freeze (K := (ekI .i64)) hw hRR98
        replace hR1110 := hR1110.mono hle102
        replace hR314 := hR314.mono hle102
        replace hR99 := hR99.mono hle102
        replace hR125 := hR125.mono hle102
        replace hR127 := hR127.mono hle102
        replace hR94 := hR94.mono hle102
        obtain ⟨y104, hy105, hp⟩ := bind_some hp
        have hc107 := keep_Ints_ok hw hR94 hR103 hy105
        refine o_call hf cb_34 rfl rfl hc107 (fun v109 w a hK108 hf => ?_)
        obtain ⟨rfl, hw⟩ := hK108
        refine o_run hf (r_move hf rfl) rfl fun a hf => ?_
        refine g_split hf (g := 64) rfl (fun hb110 hf => ?_) (fun hb110 hf => ?_)
        · replace hp := cond_t hb110 hp
          refine o_want hf (g := 64) rfl rfl ?_
          refine o_run hf (r_move hf rfl) rfl fun a hf => ?_
          obtain ⟨hg111, hp⟩ := gd_some hp
          refine o_want hf (g := 64) rfl rfl ?_
          refine o_run hf (r_indexAddr (K := ek_Plan) hf el_29 rfl rfl (hR314.rd hw) hg111) rfl fun a hf => ?_
          refine o_want hf (g := 64) rfl rfl ?_
          refine o_run hf (r_fieldAddrH hf rfl fd_26_3) rfl fun a hf => ?_
          obtain ⟨v112, hR113, hrun114⟩ := rs_loadHX (P := P) ty_24 hR314 hg111 rfl (fun cs h => Plan_f3 h)
          refine o_want hf (g := 64) rfl rfl ?_
          refine o_run hf (hrun114 _ _ _ _ _ _ _ _ _ _ _ _ hw hf rfl) rfl fun a hf => ?_
          refine o_want hf (g := 64) rfl rfl ?_
          refine o_run hf (r_lenL (K := (ekI .i64)) hf el_24 rfl (hR113.rd hw)) rfl fun a hf => ?_
          refine o_want hf (g := 64) rfl rfl ?_
          refine o_run hf (r_icmp hf rfl rfl rfl) rfl fun a hf => ?_
          refine o_run hf (r_pickT hf rfl rfl) rfl fun a hf => ?_
          refine o_run hf (r_move hf rfl) rfl fun a hf => ?_
          refine g_split hf (g := 72) rfl (fun hb115 hf => ?_) (fun hb115 hf => ?_)
          · replace hp := cond_t hb115 hp
            refine o_want hf (g := 72) rfl rfl ?_
            refine o_run hf (r_move hf rfl) rfl fun a hf => ?_
            obtain ⟨hg116, hp⟩ := gd_some hp
            refine o_want hf (g := 72) rfl rfl ?_
            refine o_run hf (r_indexAddr (K := ek_Plan) hf el_29 rfl rfl (hR314.rd hw) hg116) rfl fun a hf => ?_
            refine o_want hf (g := 72) rfl rfl ?_
            refine o_run hf (r_fieldAddrH hf rfl fd_26_0) rfl fun a hf => ?_
            refine o_want hf (g := 72) rfl rfl ?_
            refine o_run hf (r_loadH (K := ek_Plan) hf rfl ty_9 (hR314.rd hw) hg116 rfl (fun cs h => Plan_f0 h)) rfl fun a hf => ?_
            refine o_want hf (g := 72) rfl rfl ?_
            refine o_run hf (r_scmp hf rfl rfl rfl) rfl fun a hf => ?_
            refine o_run hf (r_pickT hf rfl rfl) rfl fun a hf => ?_
            refine o_run hf (r_move hf rfl) rfl fun a hf => ?_
            refine g_split hf (g := 79) rfl (fun hb117 hf => ?_) (fun hb117 hf => ?_)
            · replace hp := cond_t hb117 hp
              refine o_want hf (g := 79) rfl rfl ?_
              refine o_run hf (r_move hf rfl) rfl fun a hf => ?_
              refine o_run hf (r_pickT hf rfl rfl) rfl fun a hf => ?_
              refine o_run hf (r_move hf rfl) rfl fun a hf => ?_
              refine g_split hf (g := 82) rfl (fun hb118 hf => ?_) (fun hb118 hf => ?_)
              · replace hp := cond_t hb118 hp
                refine o_want hf (g := 82) rfl rfl ?_
                refine o_run hf (r_move hf rfl) rfl fun a hf => ?_
                refine o_want hf (g := 82) rfl rfl ?_
                refine o_run hf (r_icmp hf rfl rfl rfl) rfl fun a hf => ?_
                refine o_run hf (r_pickT hf rfl rfl) rfl fun a hf => ?_
                refine o_run hf (r_move hf rfl) rfl fun a hf => ?_
                refine g_split hf (g := 86) rfl (fun hb119 hf => ?_) (fun hb119 hf => ?_)
                · replace hp := cond_t hb119 hp
                  refine o_want hf (g := 86) rfl rfl ?_
                  refine o_run hf (r_move hf rfl) rfl fun a hf => ?_
                  refine o_run hf (r_pickT hf rfl rfl) rfl fun a hf => ?_
                  refine o_run hf (r_move hf rfl) rfl fun a hf => ?_
                  refine g_split hf (g := 89) rfl (fun hb120 hf => ?_) (fun hb120 hf => ?_)
                  · replace hp := cond_t hb120 hp
                    refine o_want hf (g := 89) rfl rfl ?_
                    refine o_run hf (r_move hf rfl) rfl fun a hf => ?_
                    refine o_want hf (g := 89) rfl rfl ?_
                    refine o_run hf (r_icmp hf rfl rfl rfl) rfl fun a hf => ?_
                    refine o_run hf (r_pickT hf rfl rfl) rfl fun a hf => ?_
                    refine o_run hf (r_move hf rfl) rfl fun a hf => ?_
                    refine g_split hf (g := 93) rfl (fun hb121 hf => ?_) (fun hb121 hf => ?_)
                    · replace hp := cond_t hb121 hp
                      refine o_want hf (g := 93) rfl rfl ?_
                      refine o_run hf (r_move hf rfl) rfl fun a hf => ?_
                      refine o_run hf (r_pickT hf rfl rfl) rfl fun a hf => ?_
                      refine o_run hf (r_move hf rfl) rfl fun a hf => ?_
                      refine g_split hf (g := 96) rfl (fun hb122 hf => ?_) (fun hb122 hf => ?_)
                      · replace hp := cond_t hb122 hp
                        refine o_want hf (g := 96) rfl rfl ?_
                        refine o_run hf (r_move hf rfl) rfl fun a hf => ?_
                        refine o_want hf (g := 96) rfl rfl ?_
                        refine o_run hf (r_lenL (K := ek_Plan) hf el_29 rfl (hR99.rd hw)) rfl fun a hf => ?_
                        refine o_want hf (g := 96) rfl rfl ?_
                        refine o_run hf (r_icmp hf rfl rfl rfl) rfl fun a hf => ?_
                        refine o_run hf (r_pickT hf rfl rfl) rfl fun a hf => ?_
                        refine o_run hf (r_move hf rfl) rfl fun a hf => ?_
                        refine g_split hf (g := 101) rfl (fun hb123 hf => ?_) (fun hb123 hf => ?_)
                        · replace hp := cond_t hb123 hp
                          refine o_want hf (g := 101) rfl rfl ?_
                          refine o_run hf (r_move hf rfl) rfl fun a hf => ?_
                          refine o_want hf (g := 101) rfl rfl ?_
                          refine o_run hf (r_not hf rfl) rfl fun a hf => ?_
                          refine o_run hf (r_pickT hf rfl rfl) rfl fun a hf => ?_
                          refine o_run hf (r_move hf rfl) rfl fun a hf => ?_
                          refine g_split hf (g := 105) rfl (fun hb124 hf => ?_) (fun hb124 hf => ?_)
                          · replace hp := cond_t hb124 hp
                            refine o_want hf (g := 105) rfl rfl ?_
                            refine o_run hf (r_move hf rfl) rfl fun a hf => ?_
                            refine o_run hf (r_pickT hf rfl rfl) rfl fun a hf => ?_
                            refine o_run hf (r_move hf rfl) rfl fun a hf => ?_
                            refine g_split hf (g := 108) rfl (fun hb125 hf => ?_) (fun hb125 hf => ?_)
                            · replace hp := cond_t hb125 hp
                              refine o_want hf (g := 108) rfl rfl ?_
                              refine o_run hf (r_move hf rfl) rfl fun a hf => ?_
                              refine o_want hf (g := 108) rfl rfl ?_
                              refine o_run hf (r_icmp hf rfl rfl rfl) rfl fun a hf => ?_
                              refine o_run hf (r_pickT hf rfl rfl) rfl fun a hf => ?_
                              refine o_run hf (r_assign hf rfl) rfl fun a hf => ?_
                              refine o_nil ?_
                              refine c_then ?_
                              have ho := out_inj hp
                              subst ho
                              exact ⟨(y347 == 14), I101, rfl, hle102, hw, hf.to ⟨rfl, trivial⟩⟩
                            · replace hp := cond_f hb125 hp
                              refine o_skip hf (g := 108) rfl rfl rfl rfl rfl rfl fun a hf => ?_
                              refine o_skip hf (g := 108) rfl rfl rfl rfl rfl rfl fun a hf => ?_
                              refine o_run hf (r_pickF hf rfl rfl) rfl fun a hf => ?_
                              refine o_run hf (r_assign hf rfl) rfl fun a hf => ?_
                              refine o_nil ?_
                              refine c_then ?_
                              have ho := out_inj hp
                              subst ho
                              exact ⟨false, I101, rfl, hle102, hw, hf.to ⟨rfl, trivial⟩⟩
                          · replace hp := cond_f hb124 hp
                            refine o_skip hf (g := 105) rfl rfl rfl rfl rfl rfl fun a hf => ?_
                            refine o_run hf (r_pickF hf rfl rfl) rfl fun a hf => ?_
                            refine o_run hf (r_move hf rfl) rfl fun a hf => ?_
                            refine o_skip hf (g := 108) rfl rfl rfl rfl rfl rfl fun a hf => ?_
                            refine o_skip hf (g := 108) rfl rfl rfl rfl rfl rfl fun a hf => ?_
                            refine o_run hf (r_pickF hf rfl rfl) rfl fun a hf => ?_
                            refine o_run hf (r_assign hf rfl) rfl fun a hf => ?_
                            refine o_nil ?_
                            refine c_then ?_
                            have ho := out_inj hp
                            subst ho
                            exact ⟨false, I101, rfl, hle102, hw, hf.to ⟨rfl, trivial⟩⟩
                        · replace hp := cond_f hb123 hp
                          refine o_skip hf (g := 101) rfl rfl rfl rfl rfl rfl fun a hf => ?_
                          refine o_skip hf (g := 101) rfl rfl rfl rfl rfl rfl fun a hf => ?_
                          refine o_run hf (r_pickF hf rfl rfl) rfl fun a hf => ?_
                          refine o_run hf (r_move hf rfl) rfl fun a hf => ?_
                          refine o_skip hf (g := 105) rfl rfl rfl rfl rfl rfl fun a hf => ?_
                          refine o_run hf (r_pickF hf rfl rfl) rfl fun a hf => ?_
                          refine o_run hf (r_move hf rfl) rfl fun a hf => ?_
                          refine o_skip hf (g := 108) rfl rfl rfl rfl rfl rfl fun a hf => ?_
                          refine o_skip hf (g := 108) rfl rfl rfl rfl rfl rfl fun a hf => ?_
                          refine o_run hf (r_pickF hf rfl rfl) rfl fun a hf => ?_
                          refine o_run hf (r_assign hf rfl) rfl fun a hf => ?_
                          refine o_nil ?_
                          refine c_then ?_
                          have ho := out_inj hp
                          subst ho
                          exact ⟨false, I101, rfl, hle102, hw, hf.to ⟨rfl, trivial⟩⟩
                      · replace hp := cond_f hb122 hp
                        refine o_skip hf (g := 96) rfl rfl rfl rfl rfl rfl fun a hf => ?_
                        refine o_skip hf (g := 96) rfl rfl rfl rfl rfl rfl fun a hf => ?_
                        refine o_skip hf (g := 96) rfl rfl rfl rfl rfl rfl fun a hf => ?_
                        refine o_run hf (r_pickF hf rfl rfl) rfl fun a hf => ?_
                        refine o_run hf (r_move hf rfl) rfl fun a hf => ?_
                        refine o_skip hf (g := 101) rfl rfl rfl rfl rfl rfl fun a hf => ?_
                        refine o_skip hf (g := 101) rfl rfl rfl rfl rfl rfl fun a hf => ?_
                        refine o_run hf (r_pickF hf rfl rfl) rfl fun a hf => ?_
                        refine o_run hf (r_move hf rfl) rfl fun a hf => ?_
                        refine o_skip hf (g := 105) rfl rfl rfl rfl rfl rfl fun a hf => ?_
                        refine o_run hf (r_pickF hf rfl rfl) rfl fun a hf => ?_
                        refine o_run hf (r_move hf rfl) rfl fun a hf => ?_
                        refine o_skip hf (g := 108) rfl rfl rfl rfl rfl rfl fun a hf => ?_
                        refine o_skip hf (g := 108) rfl rfl rfl rfl rfl rfl fun a hf => ?_
                        refine o_run hf (r_pickF hf rfl rfl) rfl fun a hf => ?_
                        refine o_run hf (r_assign hf rfl) rfl fun a hf => ?_
                        refine o_nil ?_
                        refine c_then ?_
                        have ho := out_inj hp
                        subst ho
                        exact ⟨false, I101, rfl, hle102, hw, hf.to ⟨rfl, trivial⟩⟩
                    · replace hp := cond_f hb121 hp
                      refine o_skip hf (g := 93) rfl rfl rfl rfl rfl rfl fun a hf => ?_
                      refine o_run hf (r_pickF hf rfl rfl) rfl fun a hf => ?_
                      refine o_run hf (r_move hf rfl) rfl fun a hf => ?_
                      refine o_skip hf (g := 96) rfl rfl rfl rfl rfl rfl fun a hf => ?_
                      refine o_skip hf (g := 96) rfl rfl rfl rfl rfl rfl fun a hf => ?_
                      refine o_skip hf (g := 96) rfl rfl rfl rfl rfl rfl fun a hf => ?_
                      refine o_run hf (r_pickF hf rfl rfl) rfl fun a hf => ?_
                      refine o_run hf (r_move hf rfl) rfl fun a hf => ?_
                      refine o_skip hf (g := 101) rfl rfl rfl rfl rfl rfl fun a hf => ?_
                      refine o_skip hf (g := 101) rfl rfl rfl rfl rfl rfl fun a hf => ?_
                      refine o_run hf (r_pickF hf rfl rfl) rfl fun a hf => ?_
                      refine o_run hf (r_move hf rfl) rfl fun a hf => ?_
                      refine o_skip hf (g := 105) rfl rfl rfl rfl rfl rfl fun a hf => ?_
                      refine o_run hf (r_pickF hf rfl rfl) rfl fun a hf => ?_
                      refine o_run hf (r_move hf rfl) rfl fun a hf => ?_
                      refine o_skip hf (g := 108) rfl rfl rfl rfl rfl rfl fun a hf => ?_
                      refine o_skip hf (g := 108) rfl rfl rfl rfl rfl rfl fun a hf => ?_
                      refine o_run hf (r_pickF hf rfl rfl) rfl fun a hf => ?_
                      refine o_run hf (r_assign hf rfl) rfl fun a hf => ?_
                      refine o_nil ?_
                      refine c_then ?_
                      have ho := out_inj hp
                      subst ho
                      exact ⟨false, I101, rfl, hle102, hw, hf.to ⟨rfl, trivial⟩⟩
                  · replace hp := cond_f hb120 hp
                    refine o_skip hf (g := 89) rfl rfl rfl rfl rfl rfl fun a hf => ?_
                    refine o_skip hf (g := 89) rfl rfl rfl rfl rfl rfl fun a hf => ?_
                    refine o_run hf (r_pickF hf rfl rfl) rfl fun a hf => ?_
                    refine o_run hf (r_move hf rfl) rfl fun a hf => ?_
                    refine o_skip hf (g := 93) rfl rfl rfl rfl rfl rfl fun a hf => ?_
                    refine o_run hf (r_pickF hf rfl rfl) rfl fun a hf => ?_
                    refine o_run hf (r_move hf rfl) rfl fun a hf => ?_
                    refine o_skip hf (g := 96) rfl rfl rfl rfl rfl rfl fun a hf => ?_
                    refine o_skip hf (g := 96) rfl rfl rfl rfl rfl rfl fun a hf => ?_
                    refine o_skip hf (g := 96) rfl rfl rfl rfl rfl rfl fun a hf => ?_
                    refine o_run hf (r_pickF hf rfl rfl) rfl fun a hf => ?_
                    refine o_run hf (r_move hf rfl) rfl fun a hf => ?_
                    refine o_skip hf (g := 101) rfl rfl rfl rfl rfl rfl fun a hf => ?_
                    refine o_skip hf (g := 101) rfl rfl rfl rfl rfl rfl fun a hf => ?_
                    refine o_run hf (r_pickF hf rfl rfl) rfl fun a hf => ?_
                    refine o_run hf (r_move hf rfl) rfl fun a hf => ?_
                    refine o_skip hf (g := 105) rfl rfl rfl rfl rfl rfl fun a hf => ?_
                    refine o_run hf (r_pickF hf rfl rfl) rfl fun a hf => ?_
                    refine o_run hf (r_move hf rfl) rfl fun a hf => ?_
                    refine o_skip hf (g := 108) rfl rfl rfl rfl rfl rfl fun a hf => ?_
                    refine o_skip hf (g := 108) rfl rfl rfl rfl rfl rfl fun a hf => ?_
                    refine o_run hf (r_pickF hf rfl rfl) rfl fun a hf => ?_
                    refine o_run hf (r_assign hf rfl) rfl fun a hf => ?_
                    refine o_nil ?_
                    refine c_then ?_
                    have ho := out_inj hp
                    subst ho
                    exact ⟨false, I101, rfl, hle102, hw, hf.to ⟨rfl, trivial⟩⟩
                · replace hp := cond_f hb119 hp
                  refine o_skip hf (g := 86) rfl rfl rfl rfl rfl rfl fun a hf => ?_
                  refine o_run hf (r_pickF hf rfl rfl) rfl fun a hf => ?_
                  refine o_run hf (r_move hf rfl) rfl fun a hf => ?_
                  refine o_skip hf (g := 89) rfl rfl rfl rfl rfl rfl fun a hf => ?_
                  refine o_skip hf (g := 89) rfl rfl rfl rfl rfl rfl fun a hf => ?_
                  refine o_run hf (r_pickF hf rfl rfl) rfl fun a hf => ?_
                  refine o_run hf (r_move hf rfl) rfl fun a hf => ?_
                  refine o_skip hf (g := 93) rfl rfl rfl rfl rfl rfl fun a hf => ?_
                  refine o_run hf (r_pickF hf rfl rfl) rfl fun a hf => ?_
                  refine o_run hf (r_move hf rfl) rfl fun a hf => ?_
                  refine o_skip hf (g := 96) rfl rfl rfl rfl rfl rfl fun a hf => ?_
                  refine o_skip hf (g := 96) rfl rfl rfl rfl rfl rfl fun a hf => ?_
                  refine o_skip hf (g := 96) rfl rfl rfl rfl rfl rfl fun a hf => ?_
                  refine o_run hf (r_pickF hf rfl rfl) rfl fun a hf => ?_
                  refine o_run hf (r_move hf rfl) rfl fun a hf => ?_
                  refine o_skip hf (g := 101) rfl rfl rfl rfl rfl rfl fun a hf => ?_
                  refine o_skip hf (g := 101) rfl rfl rfl rfl rfl rfl fun a hf => ?_
                  refine o_run hf (r_pickF hf rfl rfl) rfl fun a hf => ?_
                  refine o_run hf (r_move hf rfl) rfl fun a hf => ?_
                  refine o_skip hf (g := 105) rfl rfl rfl rfl rfl rfl fun a hf => ?_
                  refine o_run hf (r_pickF hf rfl rfl) rfl fun a hf => ?_
                  refine o_run hf (r_move hf rfl) rfl fun a hf => ?_
                  refine o_skip hf (g := 108) rfl rfl rfl rfl rfl rfl fun a hf => ?_
                  refine o_skip hf (g := 108) rfl rfl rfl rfl rfl rfl fun a hf => ?_
                  refine o_run hf (r_pickF hf rfl rfl) rfl fun a hf => ?_
                  refine o_run hf (r_assign hf rfl) rfl fun a hf => ?_
                  refine o_nil ?_
                  refine c_then ?_
                  have ho := out_inj hp
                  subst ho
                  exact ⟨false, I101, rfl, hle102, hw, hf.to ⟨rfl, trivial⟩⟩
              · replace hp := cond_f hb118 hp
                refine o_skip hf (g := 82) rfl rfl rfl rfl rfl rfl fun a hf => ?_
                refine o_skip hf (g := 82) rfl rfl rfl rfl rfl rfl fun a hf => ?_
                refine o_run hf (r_pickF hf rfl rfl) rfl fun a hf => ?_
                refine o_run hf (r_move hf rfl) rfl fun a hf => ?_
                refine o_skip hf (g := 86) rfl rfl rfl rfl rfl rfl fun a hf => ?_
                refine o_run hf (r_pickF hf rfl rfl) rfl fun a hf => ?_
                refine o_run hf (r_move hf rfl) rfl fun a hf => ?_
                refine o_skip hf (g := 89) rfl rfl rfl rfl rfl rfl fun a hf => ?_
                refine o_skip hf (g := 89) rfl rfl rfl rfl rfl rfl fun a hf => ?_
                refine o_run hf (r_pickF hf rfl rfl) rfl fun a hf => ?_
                refine o_run hf (r_move hf rfl) rfl fun a hf => ?_
                refine o_skip hf (g := 93) rfl rfl rfl rfl rfl rfl fun a hf => ?_
                refine o_run hf (r_pickF hf rfl rfl) rfl fun a hf => ?_
                refine o_run hf (r_move hf rfl) rfl fun a hf => ?_
                refine o_skip hf (g := 96) rfl rfl rfl rfl rfl rfl fun a hf => ?_
                refine o_skip hf (g := 96) rfl rfl rfl rfl rfl rfl fun a hf => ?_
                refine o_skip hf (g := 96) rfl rfl rfl rfl rfl rfl fun a hf => ?_
                refine o_run hf (r_pickF hf rfl rfl) rfl fun a hf => ?_
                refine o_run hf (r_move hf rfl) rfl fun a hf => ?_
                refine o_skip hf (g := 101) rfl rfl rfl rfl rfl rfl fun a hf => ?_
                refine o_skip hf (g := 101) rfl rfl rfl rfl rfl rfl fun a hf => ?_
                refine o_run hf (r_pickF hf rfl rfl) rfl fun a hf => ?_
                refine o_run hf (r_move hf rfl) rfl fun a hf => ?_
                refine o_skip hf (g := 105) rfl rfl rfl rfl rfl rfl fun a hf => ?_
                refine o_run hf (r_pickF hf rfl rfl) rfl fun a hf => ?_
                refine o_run hf (r_move hf rfl) rfl fun a hf => ?_
                refine o_skip hf (g := 108) rfl rfl rfl rfl rfl rfl fun a hf => ?_
                refine o_skip hf (g := 108) rfl rfl rfl rfl rfl rfl fun a hf => ?_
                refine o_run hf (r_pickF hf rfl rfl) rfl fun a hf => ?_
                refine o_run hf (r_assign hf rfl) rfl fun a hf => ?_
                refine o_nil ?_
                refine c_then ?_
                have ho := out_inj hp
                subst ho
                exact ⟨false, I101, rfl, hle102, hw, hf.to ⟨rfl, trivial⟩⟩
            · replace hp := cond_f hb117 hp
              refine o_skip hf (g := 79) rfl rfl rfl rfl rfl rfl fun a hf => ?_
              refine o_run hf (r_pickF hf rfl rfl) rfl fun a hf => ?_
              refine o_run hf (r_move hf rfl) rfl fun a hf => ?_
              refine o_skip hf (g := 82) rfl rfl rfl rfl rfl rfl fun a hf => ?_
              refine o_skip hf (g := 82) rfl rfl rfl rfl rfl rfl fun a hf => ?_
              refine o_run hf (r_pickF hf rfl rfl) rfl fun a hf => ?_
              refine o_run hf (r_move hf rfl) rfl fun a hf => ?_
              refine o_skip hf (g := 86) rfl rfl rfl rfl rfl rfl fun a hf => ?_
              refine o_run hf (r_pickF hf rfl rfl) rfl fun a hf => ?_
              refine o_run hf (r_move hf rfl) rfl fun a hf => ?_
              refine o_skip hf (g := 89) rfl rfl rfl rfl rfl rfl fun a hf => ?_
              refine o_skip hf (g := 89) rfl rfl rfl rfl rfl rfl fun a hf => ?_
              refine o_run hf (r_pickF hf rfl rfl) rfl fun a hf => ?_
              refine o_run hf (r_move hf rfl) rfl fun a hf => ?_
              refine o_skip hf (g := 93) rfl rfl rfl rfl rfl rfl fun a hf => ?_
              refine o_run hf (r_pickF hf rfl rfl) rfl fun a hf => ?_
              refine o_run hf (r_move hf rfl) rfl fun a hf => ?_
              refine o_skip hf (g := 96) rfl rfl rfl rfl rfl rfl fun a hf => ?_
              refine o_skip hf (g := 96) rfl rfl rfl rfl rfl rfl fun a hf => ?_
              refine o_skip hf (g := 96) rfl rfl rfl rfl rfl rfl fun a hf => ?_
              refine o_run hf (r_pickF hf rfl rfl) rfl fun a hf => ?_
              refine o_run hf (r_move hf rfl) rfl fun a hf => ?_
              refine o_skip hf (g := 101) rfl rfl rfl rfl rfl rfl fun a hf => ?_
              refine o_skip hf (g := 101) rfl rfl rfl rfl rfl rfl fun a hf => ?_
              refine o_run hf (r_pickF hf rfl rfl) rfl fun a hf => ?_
              refine o_run hf (r_move hf rfl) rfl fun a hf => ?_
              refine o_skip hf (g := 105) rfl rfl rfl rfl rfl rfl fun a hf => ?_
              refine o_run hf (r_pickF hf rfl rfl) rfl fun a hf => ?_
              refine o_run hf (r_move hf rfl) rfl fun a hf => ?_
              refine o_skip hf (g := 108) rfl rfl rfl rfl rfl rfl fun a hf => ?_
              refine o_skip hf (g := 108) rfl rfl rfl rfl rfl rfl fun a hf => ?_
              refine o_run hf (r_pickF hf rfl rfl) rfl fun a hf => ?_
              refine o_run hf (r_assign hf rfl) rfl fun a hf => ?_
              refine o_nil ?_
              refine c_then ?_
              have ho := out_inj hp
              subst ho
              exact ⟨false, I101, rfl, hle102, hw, hf.to ⟨rfl, trivial⟩⟩
          · replace hp := cond_f hb115 hp
            refine o_skip hf (g := 72) rfl rfl rfl rfl rfl rfl fun a hf => ?_
            refine o_skip hf (g := 72) rfl rfl rfl rfl rfl rfl fun a hf => ?_
            refine o_skip hf (g := 72) rfl rfl rfl rfl rfl rfl fun a hf => ?_
            refine o_skip hf (g := 72) rfl rfl rfl rfl rfl rfl fun a hf => ?_
            refine o_skip hf (g := 72) rfl rfl rfl rfl rfl rfl fun a hf => ?_
            refine o_run hf (r_pickF hf rfl rfl) rfl fun a hf => ?_
            refine o_run hf (r_move hf rfl) rfl fun a hf => ?_
            refine o_skip hf (g := 79) rfl rfl rfl rfl rfl rfl fun a hf => ?_
            refine o_run hf (r_pickF hf rfl rfl) rfl fun a hf => ?_
            refine o_run hf (r_move hf rfl) rfl fun a hf => ?_
            refine o_skip hf (g := 82) rfl rfl rfl rfl rfl rfl fun a hf => ?_
            refine o_skip hf (g := 82) rfl rfl rfl rfl rfl rfl fun a hf => ?_
            refine o_run hf (r_pickF hf rfl rfl) rfl fun a hf => ?_
            refine o_run hf (r_move hf rfl) rfl fun a hf => ?_
            refine o_skip hf (g := 86) rfl rfl rfl rfl rfl rfl fun a hf => ?_
            refine o_run hf (r_pickF hf rfl rfl) rfl fun a hf => ?_
            refine o_run hf (r_move hf rfl) rfl fun a hf => ?_
            refine o_skip hf (g := 89) rfl rfl rfl rfl rfl rfl fun a hf => ?_
            refine o_skip hf (g := 89) rfl rfl rfl rfl rfl rfl fun a hf => ?_
            refine o_run hf (r_pickF hf rfl rfl) rfl fun a hf => ?_
            refine o_run hf (r_move hf rfl) rfl fun a hf => ?_
            refine o_skip hf (g := 93) rfl rfl rfl rfl rfl rfl fun a hf => ?_
            refine o_run hf (r_pickF hf rfl rfl) rfl fun a hf => ?_
            refine o_run hf (r_move hf rfl) rfl fun a hf => ?_
            refine o_skip hf (g := 96) rfl rfl rfl rfl rfl rfl fun a hf => ?_
            refine o_skip hf (g := 96) rfl rfl rfl rfl rfl rfl fun a hf => ?_
            refine o_skip hf (g := 96) rfl rfl rfl rfl rfl rfl fun a hf => ?_
            refine o_run hf (r_pickF hf rfl rfl) rfl fun a hf => ?_
            refine o_run hf (r_move hf rfl) rfl fun a hf => ?_
            refine o_skip hf (g := 101) rfl rfl rfl rfl rfl rfl fun a hf => ?_
            refine o_skip hf (g := 101) rfl rfl rfl rfl rfl rfl fun a hf => ?_
            refine o_run hf (r_pickF hf rfl rfl) rfl fun a hf => ?_
            refine o_run hf (r_move hf rfl) rfl fun a hf => ?_
            refine o_skip hf (g := 105) rfl rfl rfl rfl rfl rfl fun a hf => ?_
            refine o_run hf (r_pickF hf rfl rfl) rfl fun a hf => ?_
            refine o_run hf (r_move hf rfl) rfl fun a hf => ?_
            refine o_skip hf (g := 108) rfl rfl rfl rfl rfl rfl fun a hf => ?_
            refine o_skip hf (g := 108) rfl rfl rfl rfl rfl rfl fun a hf => ?_
            refine o_run hf (r_pickF hf rfl rfl) rfl fun a hf => ?_
            refine o_run hf (r_assign hf rfl) rfl fun a hf => ?_
            refine o_nil ?_
            refine c_then ?_
            have ho := out_inj hp
            subst ho
            exact ⟨false, I101, rfl, hle102, hw, hf.to ⟨rfl, trivial⟩⟩
        · replace hp := cond_f hb110 hp
          refine o_skip hf (g := 64) rfl rfl rfl rfl rfl rfl fun a hf => ?_
          refine o_skip hf (g := 64) rfl rfl rfl rfl rfl rfl fun a hf => ?_
          refine o_skip hf (g := 64) rfl rfl rfl rfl rfl rfl fun a hf => ?_
          refine o_skip hf (g := 64) rfl rfl rfl rfl rfl rfl fun a hf => ?_
          refine o_skip hf (g := 64) rfl rfl rfl rfl rfl rfl fun a hf => ?_
          refine o_skip hf (g := 64) rfl rfl rfl rfl rfl rfl fun a hf => ?_
          refine o_run hf (r_pickF hf rfl rfl) rfl fun a hf => ?_
          refine o_run hf (r_move hf rfl) rfl fun a hf => ?_
          refine o_skip hf (g := 72) rfl rfl rfl rfl rfl rfl fun a hf => ?_
          refine o_skip hf (g := 72) rfl rfl rfl rfl rfl rfl fun a hf => ?_
          refine o_skip hf (g := 72) rfl rfl rfl rfl rfl rfl fun a hf => ?_
          refine o_skip hf (g := 72) rfl rfl rfl rfl rfl rfl fun a hf => ?_
          refine o_skip hf (g := 72) rfl rfl rfl rfl rfl rfl fun a hf => ?_
          refine o_run hf (r_pickF hf rfl rfl) rfl fun a hf => ?_
          refine o_run hf (r_move hf rfl) rfl fun a hf => ?_
          refine o_skip hf (g := 79) rfl rfl rfl rfl rfl rfl fun a hf => ?_
          refine o_run hf (r_pickF hf rfl rfl) rfl fun a hf => ?_
          refine o_run hf (r_move hf rfl) rfl fun a hf => ?_
          refine o_skip hf (g := 82) rfl rfl rfl rfl rfl rfl fun a hf => ?_
          refine o_skip hf (g := 82) rfl rfl rfl rfl rfl rfl fun a hf => ?_
          refine o_run hf (r_pickF hf rfl rfl) rfl fun a hf => ?_
          refine o_run hf (r_move hf rfl) rfl fun a hf => ?_
          refine o_skip hf (g := 86) rfl rfl rfl rfl rfl rfl fun a hf => ?_
          refine o_run hf (r_pickF hf rfl rfl) rfl fun a hf => ?_
          refine o_run hf (r_move hf rfl) rfl fun a hf => ?_
          refine o_skip hf (g := 89) rfl rfl rfl rfl rfl rfl fun a hf => ?_
          refine o_skip hf (g := 89) rfl rfl rfl rfl rfl rfl fun a hf => ?_
          refine o_run hf (r_pickF hf rfl rfl) rfl fun a hf => ?_
          refine o_run hf (r_move hf rfl) rfl fun a hf => ?_
          refine o_skip hf (g := 93) rfl rfl rfl rfl rfl rfl fun a hf => ?_
          refine o_run hf (r_pickF hf rfl rfl) rfl fun a hf => ?_
          refine o_run hf (r_move hf rfl) rfl fun a hf => ?_
          refine o_skip hf (g := 96) rfl rfl rfl rfl rfl rfl fun a hf => ?_
          refine o_skip hf (g := 96) rfl rfl rfl rfl rfl rfl fun a hf => ?_
          refine o_skip hf (g := 96) rfl rfl rfl rfl rfl rfl fun a hf => ?_
          refine o_run hf (r_pickF hf rfl rfl) rfl fun a hf => ?_
          refine o_run hf (r_move hf rfl) rfl fun a hf => ?_
          refine o_skip hf (g := 101) rfl rfl rfl rfl rfl rfl fun a hf => ?_
          refine o_skip hf (g := 101) rfl rfl rfl rfl rfl rfl fun a hf => ?_
          refine o_run hf (r_pickF hf rfl rfl) rfl fun a hf => ?_
          refine o_run hf (r_move hf rfl) rfl fun a hf => ?_
          refine o_skip hf (g := 105) rfl rfl rfl rfl rfl rfl fun a hf => ?_
          refine o_run hf (r_pickF hf rfl rfl) rfl fun a hf => ?_
          refine o_run hf (r_move hf rfl) rfl fun a hf => ?_
          refine o_skip hf (g := 108) rfl rfl rfl rfl rfl rfl fun a hf => ?_
          refine o_skip hf (g := 108) rfl rfl rfl rfl rfl rfl fun a hf => ?_
          refine o_run hf (r_pickF hf rfl rfl) rfl fun a hf => ?_
          refine o_run hf (r_assign hf rfl) rfl fun a hf => ?_
          refine o_nil ?_
          refine c_then ?_
          have ho := out_inj hp
          subst ho
          exact ⟨false, I101, rfl, hle102, hw, hf.to ⟨rfl, trivial⟩⟩
      · intro a w hM
        obtain ⟨y89, I88, rfl, hle126, hw, hf⟩ := hM
        replace hp := hq91
        refine wp_ret ?_
        have ho := out_inj hp
        subst ho
        exact b_ret1 hf Go.Proofs.Try.results13 rfl ⟨_, rfl, ⟨rfl, (hw.back (IH.le_trans (IH.le_trans (IH.le_trans (IH.le_trans hle1102 hle1114) hle316) hle101) hle126) (List.Sublist.refl _))⟩⟩

set_option maxHeartbeats 1000000 in
set_option maxRecDepth 20000 in
theorem law19_has_ok {E : World} {I : IH} {F : List Atom} {w : World} {a0 : List Int} {a0v14742 : Value} {a1 : Int} {res0 : Bool} (hw : Ok E I (F) w) (hR14743 : RS (ekI .i64) I a0v14742 a0) (hp : law19_has.f a0 a1 = some res0) :
    Calls P 25 ⟨[a0v14742, Value.int .i64 a1]⟩ w fun e w' => ∃ v, e = .returned v ∧ v = Value.bool res0 ∧ Ok E I (F) w' := by
  refine c_enter Go.Proofs.Try.func25 rfl Go.Proofs.Try.ntmps25 rfl fun a hf => ?_
  replace hf : Fr 18 [(0, a0v14742), (1, Value.int .i64 a1)] a := hf
  unfold law19_has.f at hp
  refine wp_seq ?_
  refine wp_region_lit ?_
  refine o_run hf (r_assign hf rfl) rfl fun a hf => ?_
  refine o_nil ?_
  refine c_then ?_
  refine wp_seq ?_
  refine wp_seq ?_
  refine wp_region_lit ?_
  refine o_run hf (r_assign hf rfl) rfl fun a hf => ?_
  refine o_nil ?_
  refine c_then ?_
  obtain ⟨out12, hp, hq13⟩ := bind_some hp
  refine c_cutX (fun a w => (.inl ()) = out12 ∧ Ok E I (F) w ∧ Fr 18 ([]) a) ?_ ?_
  · refine wp_block ?_
    refine c_loop ?_
    refine c_fuel (law19_has.l0 a0 a1) out12 (fun (y8 : Int) a w => Ok E I (F) w ∧ Fr 18 ([(0, a0v14742), (1, Value.int .i64 a1), (5, Value.int .i64 y8)]) a) (fun _ => rfl) ?_ BIG 0 _ _ ⟨hw, hf.to ⟨rfl, rfl, rfl, trivial⟩⟩ hp
    intro k y8 a w hI hp ih
    obtain ⟨hw, hf⟩ := hI
    rw [law19_has.l0] at hp
    refine wp_seq ?_
    refine wp_seq ?_
    refine wp_region_lit ?_
    refine o_run hf (r_move hf rfl) rfl fun a hf => ?_
    refine o_run hf (r_move hf rfl) rfl fun a hf => ?_
    refine o_run hf (r_lenL (K := (ekI .i64)) hf el_24 rfl (hR14743.rd hw)) rfl fun a hf => ?_
    refine o_run hf (r_icmp hf rfl rfl rfl) rfl fun a hf => ?_
    refine o_nil ?_
    refine c_then ?_
    refine c_cond hf rfl (fun hb15 => ?_) (fun hb15 => ?_)
    · replace hp := cond_t hb15 hp
      refine wp_skip ?_
      refine c_then ?_
      refine wp_seq ?_
      refine wp_block ?_
      refine wp_seq ?_
      refine wp_region_lit ?_
      refine o_run hf (r_move hf rfl) rfl fun a hf => ?_
      refine o_run hf (r_move hf rfl) rfl fun a hf => ?_
      obtain ⟨hg16, hp⟩ := gd_some hp
      refine o_run hf (r_indexAddr (K := (ekI .i64)) hf el_24 rfl rfl (hR14743.rd hw) hg16) rfl fun a hf => ?_
      refine o_run hf (r_loadH (K := (ekI .i64)) hf rfl ty_3 (hR14743.rd hw) hg16 rfl (fun cs h => ekI_f0 h)) rfl fun a hf => ?_
      refine o_run hf (r_move hf rfl) rfl fun a hf => ?_
      refine o_run hf (r_icmp hf rfl rfl rfl) rfl fun a hf => ?_
      refine o_nil ?_
      refine c_then ?_
      refine c_cond hf rfl (fun hb17 => ?_) (fun hb17 => ?_)
      · replace hp := cond_t hb17 hp
        refine wp_seq ?_
        refine wp_region_lit ?_
        refine o_run hf (r_assign hf rfl) rfl fun a hf => ?_
        refine o_nil ?_
        refine c_then ?_
        refine wp_ret ?_
        refine c_blockR ?_
        refine c_thenR ?_
        refine c_thenR ?_
        refine c_blockR ?_
        refine c_thenR ?_
        have ho := out_inj hp
        subst ho
        replace hp := hq13
        refine c_thenR ?_
        have ho := out_inj hp
        subst ho
        exact b_ret1 hf Go.Proofs.Try.results25 rfl ⟨_, rfl, ⟨rfl, hw⟩⟩
      · replace hp := cond_f hb17 hp
        refine wp_skip ?_
        refine c_blockN ?_
        refine c_then ?_
        refine wp_region_lit ?_
        refine o_run hf (r_move hf rfl) rfl fun a hf => ?_
        refine o_run hf (r_add hf rfl rfl) rfl fun a hf => ?_
        refine o_run hf (r_assign hf rfl) rfl fun a hf => ?_
        refine o_nil ?_
        refine c_then ?_
        exact ih (w64 (y8 + 1)) _ _ ⟨hw, hf.to ⟨rfl, rfl, rfl, trivial⟩⟩ hp
    · replace hp := cond_f hb15 hp
      refine wp_exit ?_
      refine c_thenE ?_
      refine c_thenE ?_
      refine c_exit ?_
      refine c_then ?_
      have ho := out_inj hp
      subst ho
      exact ⟨rfl, hw, hf.to trivial⟩
  · intro a w hM
    obtain ⟨rfl, hw, hf⟩ := hM
    replace hp := hq13
    refine c_then ?_
    refine wp_seq ?_
    refine wp_region_lit ?_
    refine o_run hf (r_assign hf rfl) rfl fun a hf => ?_
    refine o_nil ?_
    refine c_then ?_
    refine wp_ret ?_
    have ho := out_inj hp
    subst ho
    exact b_ret1 hf Go.Proofs.Try.results25 rfl ⟨_, rfl, ⟨rfl, hw⟩⟩
end Go.Lf
