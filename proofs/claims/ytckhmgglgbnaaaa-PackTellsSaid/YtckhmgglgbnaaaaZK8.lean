/- The Go functions compute the plain Lean functions (printed by our lift.py). -/
import Derived.Test.YtckhmgglgbnaaaaZD
import Derived.Test.YtckhmgglgbnaaaaZF
import Derived.Test.YtckhmgglgbnaaaaN
import Derived.Test.YtckhmgglgbnaaaaZK1
import Derived.Test.YtckhmgglgbnaaaaZK6
import Derived.Test.YtckhmgglgbnaaaaZK7
set_option linter.unusedVariables false
set_option linter.unusedSimpArgs false
namespace Go.Lf
open Go
set_option maxHeartbeats 1000000 in
set_option maxRecDepth 20000 in
theorem law19_wakes_ok {E : World} {I : IH} {F : List Atom} {w : World} {res0 : Bool} (hw : Ok E I (F) w) (hp : law19_wakes.f = some res0) :
    Calls P 13 ⟨[]⟩ w fun e w' => ∃ v, e = .returned v ∧ v = Value.bool res0 ∧ Ok E I (F) w' := by
  refine c_enter Go.Proofs.Try.func13 rfl Go.Proofs.Try.ntmps13 rfl fun a hf => ?_
  replace hf : Fr 112 [] a := hf
  unfold law19_wakes.f at hp
  refine wp_seq ?_
  refine wp_region_lit ?_
  refine o_run hf (r_assign hf rfl) rfl fun a hf => ?_
  refine o_nil ?_
  refine c_then ?_
  refine wp_seq ?_
  refine wp_region_lit ?_
  refine o_run hf (r_build hf bd_55 (vs := [Value.string (⟨#[97]⟩ : ByteArray), Value.string (⟨#[49]⟩ : ByteArray)]) rfl ⟨rfl, rfl, trivial⟩ (by decide) (out := [Value.string (⟨#[97]⟩ : ByteArray), Value.string (⟨#[49]⟩ : ByteArray)]) rfl) rfl fun a hf => ?_
  refine o_run hf (r_build hf bd_55 (vs := [Value.string (⟨#[98]⟩ : ByteArray)]) rfl ⟨rfl, trivial⟩ (by decide) (out := [Value.string (⟨#[98]⟩ : ByteArray), Value.string (⟨#[]⟩ : ByteArray)]) rfl) rfl fun a hf => ?_
  obtain ⟨w, v1, hrun2, hw, hRR3⟩ := e_buildSlice (P := P) (K := ek_Pair) (m := 2) hw hf (parts := [(0, .tmp 14), (1, .tmp 15)]) el_43 ty_55 rfl rfl rfl (ccs := [[Value.string (⟨#[97]⟩ : ByteArray), Value.string (⟨#[49]⟩ : ByteArray)], [Value.string (⟨#[98]⟩ : ByteArray), Value.string (⟨#[]⟩ : ByteArray)]]) rfl (xs := [(⟨(⟨#[97]⟩ : ByteArray), (⟨#[49]⟩ : ByteArray)⟩ : Pair), (⟨(⟨#[98]⟩ : ByteArray), (⟨#[]⟩ : ByteArray)⟩ : Pair)]) ⟨rfl, rfl, trivial⟩ rfl
  obtain ⟨cs4, hcs⟩ : ∃ cs, cs = ([[Value.string (⟨#[97]⟩ : ByteArray), Value.string (⟨#[49]⟩ : ByteArray)], [Value.string (⟨#[98]⟩ : ByteArray), Value.string (⟨#[]⟩ : ByteArray)]] : List (List Value)).flatten := ⟨_, rfl⟩
  rw [← hcs] at hw hRR3; clear hcs
  refine o_eff hf (hrun2 ..) rfl fun a hf => ?_
  have hw : Ok E I (.row v1 55 2 2 cs4 :: F) w := hw.front (i := 0) rfl
  obtain ⟨I1103, hle1104, hw, hR1105⟩ := row_freeze (K := ek_Pair) hw hRR3
  obtain ⟨y1106, hy1107, hp⟩ := bind_some hp
  have hc1109 := ref10_Build_ok hw hR1105 hy1107
  refine o_call hf cb_24 rfl rfl hc1109 (fun v1115 w a hK1110 hf => ?_)
  obtain ⟨I2_1110, rvv1111, rvv1113, rfl, hle1116, hw, hR1112, hR1114⟩ := hK1110
  replace hR1105 := hR1105.mono hle1116
  refine o_run hf (r_field hf rfl fd_47_0 ty_23 rfl) rfl fun a hf => ?_
  refine o_run hf (r_assign hf rfl) rfl fun a hf => ?_
  refine o_nil ?_
  refine c_then ?_
  refine wp_seq ?_
  refine wp_region_lit ?_
  refine o_run hf (r_move hf rfl) rfl fun a hf => ?_
  obtain ⟨y311, hy310, hp⟩ := bind_some hp
  obtain ⟨y308, y309⟩ := y311
  have hc312 := pack_Of_ok hw hR1112 hy310
  refine o_call hf cb_14 rfl rfl hc312 (fun v316 w a hK313 hf => ?_)
  obtain ⟨I2_313, rvv314, rfl, hle317, hw, hR315⟩ := hK313
  replace hR1105 := hR1105.mono hle317
  replace hR1112 := hR1112.mono hle317
  replace hR1114 := hR1114.mono hle317
  refine o_run hf (r_move hf rfl) rfl fun a hf => ?_
  refine o_run hf (r_extract hf rfl rfl) rfl fun a hf => ?_
  refine o_run hf (r_extract hf rfl rfl) rfl fun a hf => ?_
  refine o_run hf (r_assign hf rfl) rfl fun a hf => ?_
  refine o_run hf (r_assign hf rfl) rfl fun a hf => ?_
  refine o_nil ?_
  refine c_then ?_
  refine wp_seq ?_
  refine wp_region_lit ?_
  refine o_run hf (r_move hf rfl) rfl fun a hf => ?_
  obtain ⟨y81, hy80, hp⟩ := bind_some hp
  obtain ⟨y78, y79⟩ := y81
  have hc82 := pack_Size_ok hw hR1112 hy80
  refine o_call hf cb_16 rfl rfl hc82 (fun v84 w a hK83 hf => ?_)
  obtain ⟨rfl, hw⟩ := hK83
  refine o_run hf (r_move hf rfl) rfl fun a hf => ?_
  refine o_run hf (r_extract hf rfl rfl) rfl fun a hf => ?_
  refine o_run hf (r_extract hf rfl rfl) rfl fun a hf => ?_
  refine o_run hf (r_assign hf rfl) rfl fun a hf => ?_
  refine o_run hf (r_assign hf rfl) rfl fun a hf => ?_
  refine o_nil ?_
  refine c_then ?_
  refine wp_seq ?_
  refine wp_region_lit ?_
  refine o_run hf (r_move hf rfl) rfl fun a hf => ?_
  obtain ⟨y88, hy87, hp⟩ := bind_some hp
  obtain ⟨y85, y86⟩ := y88
  have hc89 := pack_Size_ok hw hR1112 hy87
  refine o_call hf cb_16 rfl rfl hc89 (fun v91 w a hK90 hf => ?_)
  obtain ⟨rfl, hw⟩ := hK90
  refine o_run hf (r_move hf rfl) rfl fun a hf => ?_
  refine o_run hf (r_extract hf rfl rfl) rfl fun a hf => ?_
  refine o_run hf (r_extract hf rfl rfl) rfl fun a hf => ?_
  refine o_run hf (r_assign hf rfl) rfl fun a hf => ?_
  refine o_run hf (r_assign hf rfl) rfl fun a hf => ?_
  refine o_nil ?_
  refine c_then ?_
  refine wp_seq ?_
  refine wp_region_lit ?_
  obtain ⟨y95, hy94, hp⟩ := bind_some hp
  obtain ⟨y92, y93⟩ := y95
  have hc96 := pack_Of_ok hw (RS.nil (K := ek_Node)) hy94
  refine o_call hf cb_14 rfl rfl hc96 (fun v100 w a hK97 hf => ?_)
  obtain ⟨I2_97, rvv98, rfl, hle101, hw, hR99⟩ := hK97
  replace hR1105 := hR1105.mono hle101
  replace hR1112 := hR1112.mono hle101
  replace hR1114 := hR1114.mono hle101
  replace hR315 := hR315.mono hle101
  refine o_run hf (r_move hf rfl) rfl fun a hf => ?_
  refine o_run hf (r_extract hf rfl rfl) rfl fun a hf => ?_
  refine o_run hf (r_extract hf rfl rfl) rfl fun a hf => ?_
  refine o_run hf (r_assign hf rfl) rfl fun a hf => ?_
  refine o_run hf (r_assign hf rfl) rfl fun a hf => ?_
  refine o_nil ?_
  refine c_then ?_
  refine wp_seq ?_
  refine wp_region_lit ?_
  refine o_run hf (r_move hf rfl) rfl fun a hf => ?_
  obtain ⟨y105, hy104, hp⟩ := bind_some hp
  obtain ⟨y102, y103⟩ := y105
  have hc106 := pack_Size_ok hw hR1112 hy104
  refine o_call hf cb_16 rfl rfl hc106 (fun v108 w a hK107 hf => ?_)
  obtain ⟨rfl, hw⟩ := hK107
  refine o_run hf (r_move hf rfl) rfl fun a hf => ?_
  refine o_run hf (r_extract hf rfl rfl) rfl fun a hf => ?_
  refine o_run hf (r_extract hf rfl rfl) rfl fun a hf => ?_
  refine o_run hf (r_assign hf rfl) rfl fun a hf => ?_
  refine o_run hf (r_assign hf rfl) rfl fun a hf => ?_
  refine o_nil ?_
  refine c_then ?_
  refine wp_seq ?_
  obtain ⟨out119, hp, hq120⟩ := bind_some hp
  refine c_cut (fun a w => ∃ y118 : Bool, y118 = out119 ∧ Ok E I2_97 (F) w ∧ Fr 112 ([(1, rvv1111), (2, rvv314), (4, Value.int .i64 y78), (5, Value.bool y79), (6, Value.int .i64 y85), (7, Value.bool y86), (8, rvv98), (9, Value.bool y93), (11, Value.bool y103), (49, Value.bool y118)]) a) ?_ ?_
  · refine wp_region_lit ?_
    refine o_run hf (r_move hf rfl) rfl fun a hf => ?_
    refine o_run hf (r_not hf rfl) rfl fun a hf => ?_
    refine o_run hf (r_move hf rfl) rfl fun a hf => ?_
    refine g_split hf (g := 45) rfl (fun hb121 hf => ?_) (fun hb121 hf => ?_)
    · replace hp := cond_t hb121 hp
      refine o_skip hf (g := 45) rfl rfl rfl rfl rfl rfl fun a hf => ?_
      refine o_skip hf (g := 45) rfl rfl rfl rfl rfl rfl fun a hf => ?_
      refine o_skip hf (g := 45) rfl rfl rfl rfl rfl rfl fun a hf => ?_
      refine o_run hf (r_pickT hf rfl rfl) rfl fun a hf => ?_
      refine o_nil ?_
      refine c_then ?_
      have ho := out_inj hp
      subst ho
      exact ⟨true, rfl, hw, hf.to ⟨rfl, rfl, rfl, rfl, rfl, rfl, rfl, rfl, rfl, rfl, trivial⟩⟩
    · replace hp := cond_f hb121 hp
      refine o_want hf (g := 45) rfl rfl ?_
      refine o_run hf (r_move hf rfl) rfl fun a hf => ?_
      refine o_want hf (g := 45) rfl rfl ?_
      refine o_run hf (r_lenL (K := ek_Plan) hf el_29 rfl (hR315.rd hw)) rfl fun a hf => ?_
      refine o_want hf (g := 45) rfl rfl ?_
      refine o_run hf (r_icmp hf rfl rfl rfl) rfl fun a hf => ?_
      refine o_run hf (r_pickF hf rfl rfl) rfl fun a hf => ?_
      refine o_nil ?_
      refine c_then ?_
      have ho := out_inj hp
      subst ho
      exact ⟨((y308.length : Int) != 1), rfl, hw, hf.to ⟨rfl, rfl, rfl, rfl, rfl, rfl, rfl, rfl, rfl, rfl, trivial⟩⟩
  · intro a w hM
    obtain ⟨y118, rfl, hw, hf⟩ := hM
    replace hp := hq120
    refine c_cond hf rfl (fun hb122 => ?_) (fun hb122 => ?_)
    · replace hp := cond_t hb122 hp
      refine wp_seq ?_
      refine wp_region_lit ?_
      refine o_run hf (r_assign hf rfl) rfl fun a hf => ?_
      refine o_nil ?_
      refine c_then ?_
      refine wp_ret ?_
      refine c_thenR ?_
      have ho := out_inj hp
      subst ho
      exact b_ret1 hf Go.Proofs.Try.results13 rfl ⟨_, rfl, ⟨rfl, (hw.back (IH.le_trans (IH.le_trans (IH.le_trans hle1104 hle1116) hle317) hle101) (List.Sublist.refl _))⟩⟩
    · replace hp := cond_f hb122 hp
      refine wp_skip ?_
      refine c_then ?_
      refine wp_seq ?_
      refine wp_region_lit ?_
      refine o_run hf (r_move hf rfl) rfl fun a hf => ?_
      refine o_run hf (r_move hf rfl) rfl fun a hf => ?_
      obtain ⟨hg123, hp⟩ := gd_some hp
      refine o_run hf (r_indexAddr (K := ek_Plan) hf el_29 rfl rfl (hR315.rd hw) hg123) rfl fun a hf => ?_
      obtain ⟨_, ⟨vv124, vv126, rfl, hR125, hR127⟩, hrun129⟩ := rs_loadHA (P := P) ty_26 hR315 hg123 rfl (fun cs h => Plan_all h)
      refine o_run hf (hrun129 _ _ _ _ _ _ _ _ _ _ _ _ hw hf rfl) rfl fun a hf => ?_
      obtain ⟨y350, hy349, hp⟩ := bind_some hp
      obtain ⟨y347, y348⟩ := y350
      have hc351 := pack_Bytes_ok hw hR1112 hR125 hR127 hy349
      refine o_call hf cb_18 rfl rfl hc351 (fun v353 w a hK352 hf => ?_)
      obtain ⟨rfl, hw⟩ := hK352
      refine o_run hf (r_move hf rfl) rfl fun a hf => ?_
      refine o_run hf (r_extract hf rfl rfl) rfl fun a hf => ?_
      refine o_run hf (r_extract hf rfl rfl) rfl fun a hf => ?_
      refine o_run hf (r_assign hf rfl) rfl fun a hf => ?_
      refine o_run hf (r_assign hf rfl) rfl fun a hf => ?_
      refine o_nil ?_
      refine c_then ?_
      obtain ⟨out90, hp, hq91⟩ := bind_some hp
      refine c_cut (fun a w => ∃ y89 : Bool, ∃ I88 : IH, y89 = out90 ∧ IH.le I2_97 I88 ∧ Ok E I88 (F) w ∧ Fr 112 ([(0, Value.bool y89)]) a) ?_ ?_
      · refine wp_region_lit ?_
        refine o_run hf (r_move hf rfl) rfl fun a hf => ?_
        obtain ⟨hg92, hp⟩ := gd_some hp
        refine o_run hf (r_indexAddr (K := ek_Plan) hf el_29 rfl rfl (hR315.rd hw) hg92) rfl fun a hf => ?_
        refine o_run hf (r_fieldAddrH hf rfl fd_26_2) rfl fun a hf => ?_
        obtain ⟨v93, hR94, hrun95⟩ := rs_loadHX (P := P) ty_24 hR315 hg92 rfl (fun cs h => Plan_f2 h)
        refine o_run hf (hrun95 _ _ _ _ _ _ _ _ _ _ _ _ hw hf rfl) rfl fun a hf => ?_
        obtain ⟨w, v96, hrun97, hw, hRR98⟩ := e_buildSlice (P := P) (K := (ekI .i64)) (m := 4) hw hf (parts := [(0, .const (Value.int .i64 0)), (1, .const (Value.int .i64 1)), (2, .const (Value.int .i64 2)), (3, .const (Value.int .i64 3))]) el_24 ty_3 rfl rfl rfl (ccs := [[Value.int .i64 0], [Value.int .i64 1], [Value.int .i64 2], [Value.int .i64 3]]) rfl (xs := [0, 1, 2, 3]) ⟨rfl, rfl, rfl, rfl, trivial⟩ rfl
        obtain ⟨cs99, hcs⟩ : ∃ cs, cs = ([[Value.int .i64 0], [Value.int .i64 1], [Value.int .i64 2], [Value.int .i64 3]] : List (List Value)).flatten := ⟨_, rfl⟩
        rw [← hcs] at hw hRR98; clear hcs
        refine o_eff hf (hrun97 ..) rfl fun a hf => ?_
        have hw : Ok E I2_97 (.row v96 3 1 4 cs99 :: F) w := hw.front (i := 0) rfl
        obtain ⟨I101, hle102, hw, hR103⟩ := row_freeze (K := (ekI .i64)) hw hRR98
        replace hR1112 := hR1112.mono hle102
        replace hR315 := hR315.mono hle102
        replace hR99 := hR99.mono hle102
        replace hR125 := hR125.mono hle102
        replace hR127 := hR127.mono hle102
        replace hR94 := hR94.mono hle102
        obtain ⟨y104, hy105, hp⟩ := bind_some hp
        have hc107 := keep_Ints_ok hw hR94 hR103 hy105
        refine o_call hf cb_34 rfl rfl hc107 (fun v109 w a hK108 hf => ?_)
        obtain ⟨rfl, hw⟩ := hK108
        refine o_run hf (r_move hf rfl) rfl fun a hf => ?_
        refine g_split hf (g := 64) rfl (fun hb110 hf => ?_) (fun hb110 hf => ?_)
        · replace hp := cond_t hb110 hp
          refine o_want hf (g := 64) rfl rfl ?_
          refine o_run hf (r_move hf rfl) rfl fun a hf => ?_
          obtain ⟨hg111, hp⟩ := gd_some hp
          refine o_want hf (g := 64) rfl rfl ?_
          refine o_run hf (r_indexAddr (K := ek_Plan) hf el_29 rfl rfl (hR315.rd hw) hg111) rfl fun a hf => ?_
          refine o_want hf (g := 64) rfl rfl ?_
          refine o_run hf (r_fieldAddrH hf rfl fd_26_3) rfl fun a hf => ?_
          obtain ⟨v112, hR113, hrun114⟩ := rs_loadHX (P := P) ty_24 hR315 hg111 rfl (fun cs h => Plan_f3 h)
          refine o_want hf (g := 64) rfl rfl ?_
          refine o_run hf (hrun114 _ _ _ _ _ _ _ _ _ _ _ _ hw hf rfl) rfl fun a hf => ?_
          refine o_want hf (g := 64) rfl rfl ?_
          refine o_run hf (r_lenL (K := (ekI .i64)) hf el_24 rfl (hR113.rd hw)) rfl fun a hf => ?_
          refine o_want hf (g := 64) rfl rfl ?_
          refine o_run hf (r_icmp hf rfl rfl rfl) rfl fun a hf => ?_
          refine o_run hf (r_pickT hf rfl rfl) rfl fun a hf => ?_
          refine o_run hf (r_move hf rfl) rfl fun a hf => ?_
          refine g_split hf (g := 72) rfl (fun hb115 hf => ?_) (fun hb115 hf => ?_)
          · replace hp := cond_t hb115 hp
            refine o_want hf (g := 72) rfl rfl ?_
            refine o_run hf (r_move hf rfl) rfl fun a hf => ?_
            obtain ⟨hg116, hp⟩ := gd_some hp
            refine o_want hf (g := 72) rfl rfl ?_
            refine o_run hf (r_indexAddr (K := ek_Plan) hf el_29 rfl rfl (hR315.rd hw) hg116) rfl fun a hf => ?_
            refine o_want hf (g := 72) rfl rfl ?_
            refine o_run hf (r_fieldAddrH hf rfl fd_26_0) rfl fun a hf => ?_
            refine o_want hf (g := 72) rfl rfl ?_
            refine o_run hf (r_loadH (K := ek_Plan) hf rfl ty_9 (hR315.rd hw) hg116 rfl (fun cs h => Plan_f0 h)) rfl fun a hf => ?_
            refine o_want hf (g := 72) rfl rfl ?_
            refine o_run hf (r_scmp hf rfl rfl rfl) rfl fun a hf => ?_
            refine o_run hf (r_pickT hf rfl rfl) rfl fun a hf => ?_
            refine o_run hf (r_move hf rfl) rfl fun a hf => ?_
            refine g_split hf (g := 79) rfl (fun hb117 hf => ?_) (fun hb117 hf => ?_)
            · replace hp := cond_t hb117 hp
              refine o_want hf (g := 79) rfl rfl ?_
              refine o_run hf (r_move hf rfl) rfl fun a hf => ?_
              refine o_run hf (r_pickT hf rfl rfl) rfl fun a hf => ?_
              refine o_run hf (r_move hf rfl) rfl fun a hf => ?_
              refine g_split hf (g := 82) rfl (fun hb118 hf => ?_) (fun hb118 hf => ?_)
              · replace hp := cond_t hb118 hp
                refine o_want hf (g := 82) rfl rfl ?_
                refine o_run hf (r_move hf rfl) rfl fun a hf => ?_
                refine o_want hf (g := 82) rfl rfl ?_
                refine o_run hf (r_icmp hf rfl rfl rfl) rfl fun a hf => ?_
                refine o_run hf (r_pickT hf rfl rfl) rfl fun a hf => ?_
                refine o_run hf (r_move hf rfl) rfl fun a hf => ?_
                refine g_split hf (g := 86) rfl (fun hb119 hf => ?_) (fun hb119 hf => ?_)
                · replace hp := cond_t hb119 hp
                  refine o_want hf (g := 86) rfl rfl ?_
                  refine o_run hf (r_move hf rfl) rfl fun a hf => ?_
                  refine o_run hf (r_pickT hf rfl rfl) rfl fun a hf => ?_
                  refine o_run hf (r_move hf rfl) rfl fun a hf => ?_
                  refine g_split hf (g := 89) rfl (fun hb120 hf => ?_) (fun hb120 hf => ?_)
                  · replace hp := cond_t hb120 hp
                    refine o_want hf (g := 89) rfl rfl ?_
                    refine o_run hf (r_move hf rfl) rfl fun a hf => ?_
                    refine o_want hf (g := 89) rfl rfl ?_
                    refine o_run hf (r_icmp hf rfl rfl rfl) rfl fun a hf => ?_
                    refine o_run hf (r_pickT hf rfl rfl) rfl fun a hf => ?_
                    refine o_run hf (r_move hf rfl) rfl fun a hf => ?_
                    refine g_split hf (g := 93) rfl (fun hb121 hf => ?_) (fun hb121 hf => ?_)
                    · replace hp := cond_t hb121 hp
                      refine o_want hf (g := 93) rfl rfl ?_
                      refine o_run hf (r_move hf rfl) rfl fun a hf => ?_
                      refine o_run hf (r_pickT hf rfl rfl) rfl fun a hf => ?_
                      refine o_run hf (r_move hf rfl) rfl fun a hf => ?_
                      refine g_split hf (g := 96) rfl (fun hb122 hf => ?_) (fun hb122 hf => ?_)
                      · replace hp := cond_t hb122 hp
                        refine o_want hf (g := 96) rfl rfl ?_
                        refine o_run hf (r_move hf rfl) rfl fun a hf => ?_
                        refine o_want hf (g := 96) rfl rfl ?_
                        refine o_run hf (r_lenL (K := ek_Plan) hf el_29 rfl (hR99.rd hw)) rfl fun a hf => ?_
                        refine o_want hf (g := 96) rfl rfl ?_
                        refine o_run hf (r_icmp hf rfl rfl rfl) rfl fun a hf => ?_
                        refine o_run hf (r_pickT hf rfl rfl) rfl fun a hf => ?_
                        refine o_run hf (r_move hf rfl) rfl fun a hf => ?_
                        refine g_split hf (g := 101) rfl (fun hb123 hf => ?_) (fun hb123 hf => ?_)
                        · replace hp := cond_t hb123 hp
                          refine o_want hf (g := 101) rfl rfl ?_
                          refine o_run hf (r_move hf rfl) rfl fun a hf => ?_
                          refine o_want hf (g := 101) rfl rfl ?_
                          refine o_run hf (r_not hf rfl) rfl fun a hf => ?_
                          refine o_run hf (r_pickT hf rfl rfl) rfl fun a hf => ?_
                          refine o_run hf (r_move hf rfl) rfl fun a hf => ?_
                          refine g_split hf (g := 105) rfl (fun hb124 hf => ?_) (fun hb124 hf => ?_)
                          · replace hp := cond_t hb124 hp
                            refine o_want hf (g := 105) rfl rfl ?_
                            refine o_run hf (r_move hf rfl) rfl fun a hf => ?_
                            refine o_run hf (r_pickT hf rfl rfl) rfl fun a hf => ?_
                            refine o_run hf (r_move hf rfl) rfl fun a hf => ?_
                            refine g_split hf (g := 108) rfl (fun hb125 hf => ?_) (fun hb125 hf => ?_)
                            · replace hp := cond_t hb125 hp
                              refine o_want hf (g := 108) rfl rfl ?_
                              refine o_run hf (r_move hf rfl) rfl fun a hf => ?_
                              refine o_want hf (g := 108) rfl rfl ?_
                              refine o_run hf (r_icmp hf rfl rfl rfl) rfl fun a hf => ?_
                              refine o_run hf (r_pickT hf rfl rfl) rfl fun a hf => ?_
                              refine o_run hf (r_assign hf rfl) rfl fun a hf => ?_
                              refine o_nil ?_
                              refine c_then ?_
                              have ho := out_inj hp
                              subst ho
                              exact ⟨(y347 == 14), I101, rfl, hle102, hw, hf.to ⟨rfl, trivial⟩⟩
                            · replace hp := cond_f hb125 hp
                              refine o_skip hf (g := 108) rfl rfl rfl rfl rfl rfl fun a hf => ?_
                              refine o_skip hf (g := 108) rfl rfl rfl rfl rfl rfl fun a hf => ?_
                              refine o_run hf (r_pickF hf rfl rfl) rfl fun a hf => ?_
                              refine o_run hf (r_assign hf rfl) rfl fun a hf => ?_
                              refine o_nil ?_
                              refine c_then ?_
                              have ho := out_inj hp
                              subst ho
                              exact ⟨false, I101, rfl, hle102, hw, hf.to ⟨rfl, trivial⟩⟩
                          · replace hp := cond_f hb124 hp
                            refine o_skip hf (g := 105) rfl rfl rfl rfl rfl rfl fun a hf => ?_
                            refine o_run hf (r_pickF hf rfl rfl) rfl fun a hf => ?_
                            refine o_run hf (r_move hf rfl) rfl fun a hf => ?_
                            refine o_skip hf (g := 108) rfl rfl rfl rfl rfl rfl fun a hf => ?_
                            refine o_skip hf (g := 108) rfl rfl rfl rfl rfl rfl fun a hf => ?_
                            refine o_run hf (r_pickF hf rfl rfl) rfl fun a hf => ?_
                            refine o_run hf (r_assign hf rfl) rfl fun a hf => ?_
                            refine o_nil ?_
                            refine c_then ?_
                            have ho := out_inj hp
                            subst ho
                            exact ⟨false, I101, rfl, hle102, hw, hf.to ⟨rfl, trivial⟩⟩
                        · replace hp := cond_f hb123 hp
                          refine o_skip hf (g := 101) rfl rfl rfl rfl rfl rfl fun a hf => ?_
                          refine o_skip hf (g := 101) rfl rfl rfl rfl rfl rfl fun a hf => ?_
                          refine o_run hf (r_pickF hf rfl rfl) rfl fun a hf => ?_
                          refine o_run hf (r_move hf rfl) rfl fun a hf => ?_
                          refine o_skip hf (g := 105) rfl rfl rfl rfl rfl rfl fun a hf => ?_
                          refine o_run hf (r_pickF hf rfl rfl) rfl fun a hf => ?_
                          refine o_run hf (r_move hf rfl) rfl fun a hf => ?_
                          refine o_skip hf (g := 108) rfl rfl rfl rfl rfl rfl fun a hf => ?_
                          refine o_skip hf (g := 108) rfl rfl rfl rfl rfl rfl fun a hf => ?_
                          refine o_run hf (r_pickF hf rfl rfl) rfl fun a hf => ?_
                          refine o_run hf (r_assign hf rfl) rfl fun a hf => ?_
                          refine o_nil ?_
                          refine c_then ?_
                          have ho := out_inj hp
                          subst ho
                          exact ⟨false, I101, rfl, hle102, hw, hf.to ⟨rfl, trivial⟩⟩
                      · replace hp := cond_f hb122 hp
                        refine o_skip hf (g := 96) rfl rfl rfl rfl rfl rfl fun a hf => ?_
                        refine o_skip hf (g := 96) rfl rfl rfl rfl rfl rfl fun a hf => ?_
                        refine o_skip hf (g := 96) rfl rfl rfl rfl rfl rfl fun a hf => ?_
                        refine o_run hf (r_pickF hf rfl rfl) rfl fun a hf => ?_
                        refine o_run hf (r_move hf rfl) rfl fun a hf => ?_
                        refine o_skip hf (g := 101) rfl rfl rfl rfl rfl rfl fun a hf => ?_
                        refine o_skip hf (g := 101) rfl rfl rfl rfl rfl rfl fun a hf => ?_
                        refine o_run hf (r_pickF hf rfl rfl) rfl fun a hf => ?_
                        refine o_run hf (r_move hf rfl) rfl fun a hf => ?_
                        refine o_skip hf (g := 105) rfl rfl rfl rfl rfl rfl fun a hf => ?_
                        refine o_run hf (r_pickF hf rfl rfl) rfl fun a hf => ?_
                        refine o_run hf (r_move hf rfl) rfl fun a hf => ?_
                        refine o_skip hf (g := 108) rfl rfl rfl rfl rfl rfl fun a hf => ?_
                        refine o_skip hf (g := 108) rfl rfl rfl rfl rfl rfl fun a hf => ?_
                        refine o_run hf (r_pickF hf rfl rfl) rfl fun a hf => ?_
                        refine o_run hf (r_assign hf rfl) rfl fun a hf => ?_
                        refine o_nil ?_
                        refine c_then ?_
                        have ho := out_inj hp
                        subst ho
                        exact ⟨false, I101, rfl, hle102, hw, hf.to ⟨rfl, trivial⟩⟩
                    · replace hp := cond_f hb121 hp
                      refine o_skip hf (g := 93) rfl rfl rfl rfl rfl rfl fun a hf => ?_
                      refine o_run hf (r_pickF hf rfl rfl) rfl fun a hf => ?_
                      refine o_run hf (r_move hf rfl) rfl fun a hf => ?_
                      refine o_skip hf (g := 96) rfl rfl rfl rfl rfl rfl fun a hf => ?_
                      refine o_skip hf (g := 96) rfl rfl rfl rfl rfl rfl fun a hf => ?_
                      refine o_skip hf (g := 96) rfl rfl rfl rfl rfl rfl fun a hf => ?_
                      refine o_run hf (r_pickF hf rfl rfl) rfl fun a hf => ?_
                      refine o_run hf (r_move hf rfl) rfl fun a hf => ?_
                      refine o_skip hf (g := 101) rfl rfl rfl rfl rfl rfl fun a hf => ?_
                      refine o_skip hf (g := 101) rfl rfl rfl rfl rfl rfl fun a hf => ?_
                      refine o_run hf (r_pickF hf rfl rfl) rfl fun a hf => ?_
                      refine o_run hf (r_move hf rfl) rfl fun a hf => ?_
                      refine o_skip hf (g := 105) rfl rfl rfl rfl rfl rfl fun a hf => ?_
                      refine o_run hf (r_pickF hf rfl rfl) rfl fun a hf => ?_
                      refine o_run hf (r_move hf rfl) rfl fun a hf => ?_
                      refine o_skip hf (g := 108) rfl rfl rfl rfl rfl rfl fun a hf => ?_
                      refine o_skip hf (g := 108) rfl rfl rfl rfl rfl rfl fun a hf => ?_
                      refine o_run hf (r_pickF hf rfl rfl) rfl fun a hf => ?_
                      refine o_run hf (r_assign hf rfl) rfl fun a hf => ?_
                      refine o_nil ?_
                      refine c_then ?_
                      have ho := out_inj hp
                      subst ho
                      exact ⟨false, I101, rfl, hle102, hw, hf.to ⟨rfl, trivial⟩⟩
                  · replace hp := cond_f hb120 hp
                    refine o_skip hf (g := 89) rfl rfl rfl rfl rfl rfl fun a hf => ?_
                    refine o_skip hf (g := 89) rfl rfl rfl rfl rfl rfl fun a hf => ?_
                    refine o_run hf (r_pickF hf rfl rfl) rfl fun a hf => ?_
                    refine o_run hf (r_move hf rfl) rfl fun a hf => ?_
                    refine o_skip hf (g := 93) rfl rfl rfl rfl rfl rfl fun a hf => ?_
                    refine o_run hf (r_pickF hf rfl rfl) rfl fun a hf => ?_
                    refine o_run hf (r_move hf rfl) rfl fun a hf => ?_
                    refine o_skip hf (g := 96) rfl rfl rfl rfl rfl rfl fun a hf => ?_
                    refine o_skip hf (g := 96) rfl rfl rfl rfl rfl rfl fun a hf => ?_
                    refine o_skip hf (g := 96) rfl rfl rfl rfl rfl rfl fun a hf => ?_
                    refine o_run hf (r_pickF hf rfl rfl) rfl fun a hf => ?_
                    refine o_run hf (r_move hf rfl) rfl fun a hf => ?_
                    refine o_skip hf (g := 101) rfl rfl rfl rfl rfl rfl fun a hf => ?_
                    refine o_skip hf (g := 101) rfl rfl rfl rfl rfl rfl fun a hf => ?_
                    refine o_run hf (r_pickF hf rfl rfl) rfl fun a hf => ?_
                    refine o_run hf (r_move hf rfl) rfl fun a hf => ?_
                    refine o_skip hf (g := 105) rfl rfl rfl rfl rfl rfl fun a hf => ?_
                    refine o_run hf (r_pickF hf rfl rfl) rfl fun a hf => ?_
                    refine o_run hf (r_move hf rfl) rfl fun a hf => ?_
                    refine o_skip hf (g := 108) rfl rfl rfl rfl rfl rfl fun a hf => ?_
                    refine o_skip hf (g := 108) rfl rfl rfl rfl rfl rfl fun a hf => ?_
                    refine o_run hf (r_pickF hf rfl rfl) rfl fun a hf => ?_
                    refine o_run hf (r_assign hf rfl) rfl fun a hf => ?_
                    refine o_nil ?_
                    refine c_then ?_
                    have ho := out_inj hp
                    subst ho
                    exact ⟨false, I101, rfl, hle102, hw, hf.to ⟨rfl, trivial⟩⟩
                · replace hp := cond_f hb119 hp
                  refine o_skip hf (g := 86) rfl rfl rfl rfl rfl rfl fun a hf => ?_
                  refine o_run hf (r_pickF hf rfl rfl) rfl fun a hf => ?_
                  refine o_run hf (r_move hf rfl) rfl fun a hf => ?_
                  refine o_skip hf (g := 89) rfl rfl rfl rfl rfl rfl fun a hf => ?_
                  refine o_skip hf (g := 89) rfl rfl rfl rfl rfl rfl fun a hf => ?_
                  refine o_run hf (r_pickF hf rfl rfl) rfl fun a hf => ?_
                  refine o_run hf (r_move hf rfl) rfl fun a hf => ?_
                  refine o_skip hf (g := 93) rfl rfl rfl rfl rfl rfl fun a hf => ?_
                  refine o_run hf (r_pickF hf rfl rfl) rfl fun a hf => ?_
                  refine o_run hf (r_move hf rfl) rfl fun a hf => ?_
                  refine o_skip hf (g := 96) rfl rfl rfl rfl rfl rfl fun a hf => ?_
                  refine o_skip hf (g := 96) rfl rfl rfl rfl rfl rfl fun a hf => ?_
                  refine o_skip hf (g := 96) rfl rfl rfl rfl rfl rfl fun a hf => ?_
                  refine o_run hf (r_pickF hf rfl rfl) rfl fun a hf => ?_
                  refine o_run hf (r_move hf rfl) rfl fun a hf => ?_
                  refine o_skip hf (g := 101) rfl rfl rfl rfl rfl rfl fun a hf => ?_
                  refine o_skip hf (g := 101) rfl rfl rfl rfl rfl rfl fun a hf => ?_
                  refine o_run hf (r_pickF hf rfl rfl) rfl fun a hf => ?_
                  refine o_run hf (r_move hf rfl) rfl fun a hf => ?_
                  refine o_skip hf (g := 105) rfl rfl rfl rfl rfl rfl fun a hf => ?_
                  refine o_run hf (r_pickF hf rfl rfl) rfl fun a hf => ?_
                  refine o_run hf (r_move hf rfl) rfl fun a hf => ?_
                  refine o_skip hf (g := 108) rfl rfl rfl rfl rfl rfl fun a hf => ?_
                  refine o_skip hf (g := 108) rfl rfl rfl rfl rfl rfl fun a hf => ?_
                  refine o_run hf (r_pickF hf rfl rfl) rfl fun a hf => ?_
                  refine o_run hf (r_assign hf rfl) rfl fun a hf => ?_
                  refine o_nil ?_
                  refine c_then ?_
                  have ho := out_inj hp
                  subst ho
                  exact ⟨false, I101, rfl, hle102, hw, hf.to ⟨rfl, trivial⟩⟩
              · replace hp := cond_f hb118 hp
                refine o_skip hf (g := 82) rfl rfl rfl rfl rfl rfl fun a hf => ?_
                refine o_skip hf (g := 82) rfl rfl rfl rfl rfl rfl fun a hf => ?_
                refine o_run hf (r_pickF hf rfl rfl) rfl fun a hf => ?_
                refine o_run hf (r_move hf rfl) rfl fun a hf => ?_
                refine o_skip hf (g := 86) rfl rfl rfl rfl rfl rfl fun a hf => ?_
                refine o_run hf (r_pickF hf rfl rfl) rfl fun a hf => ?_
                refine o_run hf (r_move hf rfl) rfl fun a hf => ?_
                refine o_skip hf (g := 89) rfl rfl rfl rfl rfl rfl fun a hf => ?_
                refine o_skip hf (g := 89) rfl rfl rfl rfl rfl rfl fun a hf => ?_
                refine o_run hf (r_pickF hf rfl rfl) rfl fun a hf => ?_
                refine o_run hf (r_move hf rfl) rfl fun a hf => ?_
                refine o_skip hf (g := 93) rfl rfl rfl rfl rfl rfl fun a hf => ?_
                refine o_run hf (r_pickF hf rfl rfl) rfl fun a hf => ?_
                refine o_run hf (r_move hf rfl) rfl fun a hf => ?_
                refine o_skip hf (g := 96) rfl rfl rfl rfl rfl rfl fun a hf => ?_
                refine o_skip hf (g := 96) rfl rfl rfl rfl rfl rfl fun a hf => ?_
                refine o_skip hf (g := 96) rfl rfl rfl rfl rfl rfl fun a hf => ?_
                refine o_run hf (r_pickF hf rfl rfl) rfl fun a hf => ?_
                refine o_run hf (r_move hf rfl) rfl fun a hf => ?_
                refine o_skip hf (g := 101) rfl rfl rfl rfl rfl rfl fun a hf => ?_
                refine o_skip hf (g := 101) rfl rfl rfl rfl rfl rfl fun a hf => ?_
                refine o_run hf (r_pickF hf rfl rfl) rfl fun a hf => ?_
                refine o_run hf (r_move hf rfl) rfl fun a hf => ?_
                refine o_skip hf (g := 105) rfl rfl rfl rfl rfl rfl fun a hf => ?_
                refine o_run hf (r_pickF hf rfl rfl) rfl fun a hf => ?_
                refine o_run hf (r_move hf rfl) rfl fun a hf => ?_
                refine o_skip hf (g := 108) rfl rfl rfl rfl rfl rfl fun a hf => ?_
                refine o_skip hf (g := 108) rfl rfl rfl rfl rfl rfl fun a hf => ?_
                refine o_run hf (r_pickF hf rfl rfl) rfl fun a hf => ?_
                refine o_run hf (r_assign hf rfl) rfl fun a hf => ?_
                refine o_nil ?_
                refine c_then ?_
                have ho := out_inj hp
                subst ho
                exact ⟨false, I101, rfl, hle102, hw, hf.to ⟨rfl, trivial⟩⟩
            · replace hp := cond_f hb117 hp
              refine o_skip hf (g := 79) rfl rfl rfl rfl rfl rfl fun a hf => ?_
              refine o_run hf (r_pickF hf rfl rfl) rfl fun a hf => ?_
              refine o_run hf (r_move hf rfl) rfl fun a hf => ?_
              refine o_skip hf (g := 82) rfl rfl rfl rfl rfl rfl fun a hf => ?_
              refine o_skip hf (g := 82) rfl rfl rfl rfl rfl rfl fun a hf => ?_
              refine o_run hf (r_pickF hf rfl rfl) rfl fun a hf => ?_
              refine o_run hf (r_move hf rfl) rfl fun a hf => ?_
              refine o_skip hf (g := 86) rfl rfl rfl rfl rfl rfl fun a hf => ?_
              refine o_run hf (r_pickF hf rfl rfl) rfl fun a hf => ?_
              refine o_run hf (r_move hf rfl) rfl fun a hf => ?_
              refine o_skip hf (g := 89) rfl rfl rfl rfl rfl rfl fun a hf => ?_
              refine o_skip hf (g := 89) rfl rfl rfl rfl rfl rfl fun a hf => ?_
              refine o_run hf (r_pickF hf rfl rfl) rfl fun a hf => ?_
              refine o_run hf (r_move hf rfl) rfl fun a hf => ?_
              refine o_skip hf (g := 93) rfl rfl rfl rfl rfl rfl fun a hf => ?_
              refine o_run hf (r_pickF hf rfl rfl) rfl fun a hf => ?_
              refine o_run hf (r_move hf rfl) rfl fun a hf => ?_
              refine o_skip hf (g := 96) rfl rfl rfl rfl rfl rfl fun a hf => ?_
              refine o_skip hf (g := 96) rfl rfl rfl rfl rfl rfl fun a hf => ?_
              refine o_skip hf (g := 96) rfl rfl rfl rfl rfl rfl fun a hf => ?_
              refine o_run hf (r_pickF hf rfl rfl) rfl fun a hf => ?_
              refine o_run hf (r_move hf rfl) rfl fun a hf => ?_
              refine o_skip hf (g := 101) rfl rfl rfl rfl rfl rfl fun a hf => ?_
              refine o_skip hf (g := 101) rfl rfl rfl rfl rfl rfl fun a hf => ?_
              refine o_run hf (r_pickF hf rfl rfl) rfl fun a hf => ?_
              refine o_run hf (r_move hf rfl) rfl fun a hf => ?_
              refine o_skip hf (g := 105) rfl rfl rfl rfl rfl rfl fun a hf => ?_
              refine o_run hf (r_pickF hf rfl rfl) rfl fun a hf => ?_
              refine o_run hf (r_move hf rfl) rfl fun a hf => ?_
              refine o_skip hf (g := 108) rfl rfl rfl rfl rfl rfl fun a hf => ?_
              refine o_skip hf (g := 108) rfl rfl rfl rfl rfl rfl fun a hf => ?_
              refine o_run hf (r_pickF hf rfl rfl) rfl fun a hf => ?_
              refine o_run hf (r_assign hf rfl) rfl fun a hf => ?_
              refine o_nil ?_
              refine c_then ?_
              have ho := out_inj hp
              subst ho
              exact ⟨false, I101, rfl, hle102, hw, hf.to ⟨rfl, trivial⟩⟩
          · replace hp := cond_f hb115 hp
            refine o_skip hf (g := 72) rfl rfl rfl rfl rfl rfl fun a hf => ?_
            refine o_skip hf (g := 72) rfl rfl rfl rfl rfl rfl fun a hf => ?_
            refine o_skip hf (g := 72) rfl rfl rfl rfl rfl rfl fun a hf => ?_
            refine o_skip hf (g := 72) rfl rfl rfl rfl rfl rfl fun a hf => ?_
            refine o_skip hf (g := 72) rfl rfl rfl rfl rfl rfl fun a hf => ?_
            refine o_run hf (r_pickF hf rfl rfl) rfl fun a hf => ?_
            refine o_run hf (r_move hf rfl) rfl fun a hf => ?_
            refine o_skip hf (g := 79) rfl rfl rfl rfl rfl rfl fun a hf => ?_
            refine o_run hf (r_pickF hf rfl rfl) rfl fun a hf => ?_
            refine o_run hf (r_move hf rfl) rfl fun a hf => ?_
            refine o_skip hf (g := 82) rfl rfl rfl rfl rfl rfl fun a hf => ?_
            refine o_skip hf (g := 82) rfl rfl rfl rfl rfl rfl fun a hf => ?_
            refine o_run hf (r_pickF hf rfl rfl) rfl fun a hf => ?_
            refine o_run hf (r_move hf rfl) rfl fun a hf => ?_
            refine o_skip hf (g := 86) rfl rfl rfl rfl rfl rfl fun a hf => ?_
            refine o_run hf (r_pickF hf rfl rfl) rfl fun a hf => ?_
            refine o_run hf (r_move hf rfl) rfl fun a hf => ?_
            refine o_skip hf (g := 89) rfl rfl rfl rfl rfl rfl fun a hf => ?_
            refine o_skip hf (g := 89) rfl rfl rfl rfl rfl rfl fun a hf => ?_
            refine o_run hf (r_pickF hf rfl rfl) rfl fun a hf => ?_
            refine o_run hf (r_move hf rfl) rfl fun a hf => ?_
            refine o_skip hf (g := 93) rfl rfl rfl rfl rfl rfl fun a hf => ?_
            refine o_run hf (r_pickF hf rfl rfl) rfl fun a hf => ?_
            refine o_run hf (r_move hf rfl) rfl fun a hf => ?_
            refine o_skip hf (g := 96) rfl rfl rfl rfl rfl rfl fun a hf => ?_
            refine o_skip hf (g := 96) rfl rfl rfl rfl rfl rfl fun a hf => ?_
            refine o_skip hf (g := 96) rfl rfl rfl rfl rfl rfl fun a hf => ?_
            refine o_run hf (r_pickF hf rfl rfl) rfl fun a hf => ?_
            refine o_run hf (r_move hf rfl) rfl fun a hf => ?_
            refine o_skip hf (g := 101) rfl rfl rfl rfl rfl rfl fun a hf => ?_
            refine o_skip hf (g := 101) rfl rfl rfl rfl rfl rfl fun a hf => ?_
            refine o_run hf (r_pickF hf rfl rfl) rfl fun a hf => ?_
            refine o_run hf (r_move hf rfl) rfl fun a hf => ?_
            refine o_skip hf (g := 105) rfl rfl rfl rfl rfl rfl fun a hf => ?_
            refine o_run hf (r_pickF hf rfl rfl) rfl fun a hf => ?_
            refine o_run hf (r_move hf rfl) rfl fun a hf => ?_
            refine o_skip hf (g := 108) rfl rfl rfl rfl rfl rfl fun a hf => ?_
            refine o_skip hf (g := 108) rfl rfl rfl rfl rfl rfl fun a hf => ?_
            refine o_run hf (r_pickF hf rfl rfl) rfl fun a hf => ?_
            refine o_run hf (r_assign hf rfl) rfl fun a hf => ?_
            refine o_nil ?_
            refine c_then ?_
            have ho := out_inj hp
            subst ho
            exact ⟨false, I101, rfl, hle102, hw, hf.to ⟨rfl, trivial⟩⟩
        · replace hp := cond_f hb110 hp
          refine o_skip hf (g := 64) rfl rfl rfl rfl rfl rfl fun a hf => ?_
          refine o_skip hf (g := 64) rfl rfl rfl rfl rfl rfl fun a hf => ?_
          refine o_skip hf (g := 64) rfl rfl rfl rfl rfl rfl fun a hf => ?_
          refine o_skip hf (g := 64) rfl rfl rfl rfl rfl rfl fun a hf => ?_
          refine o_skip hf (g := 64) rfl rfl rfl rfl rfl rfl fun a hf => ?_
          refine o_skip hf (g := 64) rfl rfl rfl rfl rfl rfl fun a hf => ?_
          refine o_run hf (r_pickF hf rfl rfl) rfl fun a hf => ?_
          refine o_run hf (r_move hf rfl) rfl fun a hf => ?_
          refine o_skip hf (g := 72) rfl rfl rfl rfl rfl rfl fun a hf => ?_
          refine o_skip hf (g := 72) rfl rfl rfl rfl rfl rfl fun a hf => ?_
          refine o_skip hf (g := 72) rfl rfl rfl rfl rfl rfl fun a hf => ?_
          refine o_skip hf (g := 72) rfl rfl rfl rfl rfl rfl fun a hf => ?_
          refine o_skip hf (g := 72) rfl rfl rfl rfl rfl rfl fun a hf => ?_
          refine o_run hf (r_pickF hf rfl rfl) rfl fun a hf => ?_
          refine o_run hf (r_move hf rfl) rfl fun a hf => ?_
          refine o_skip hf (g := 79) rfl rfl rfl rfl rfl rfl fun a hf => ?_
          refine o_run hf (r_pickF hf rfl rfl) rfl fun a hf => ?_
          refine o_run hf (r_move hf rfl) rfl fun a hf => ?_
          refine o_skip hf (g := 82) rfl rfl rfl rfl rfl rfl fun a hf => ?_
          refine o_skip hf (g := 82) rfl rfl rfl rfl rfl rfl fun a hf => ?_
          refine o_run hf (r_pickF hf rfl rfl) rfl fun a hf => ?_
          refine o_run hf (r_move hf rfl) rfl fun a hf => ?_
          refine o_skip hf (g := 86) rfl rfl rfl rfl rfl rfl fun a hf => ?_
          refine o_run hf (r_pickF hf rfl rfl) rfl fun a hf => ?_
          refine o_run hf (r_move hf rfl) rfl fun a hf => ?_
          refine o_skip hf (g := 89) rfl rfl rfl rfl rfl rfl fun a hf => ?_
          refine o_skip hf (g := 89) rfl rfl rfl rfl rfl rfl fun a hf => ?_
          refine o_run hf (r_pickF hf rfl rfl) rfl fun a hf => ?_
          refine o_run hf (r_move hf rfl) rfl fun a hf => ?_
          refine o_skip hf (g := 93) rfl rfl rfl rfl rfl rfl fun a hf => ?_
          refine o_run hf (r_pickF hf rfl rfl) rfl fun a hf => ?_
          refine o_run hf (r_move hf rfl) rfl fun a hf => ?_
          refine o_skip hf (g := 96) rfl rfl rfl rfl rfl rfl fun a hf => ?_
          refine o_skip hf (g := 96) rfl rfl rfl rfl rfl rfl fun a hf => ?_
          refine o_skip hf (g := 96) rfl rfl rfl rfl rfl rfl fun a hf => ?_
          refine o_run hf (r_pickF hf rfl rfl) rfl fun a hf => ?_
          refine o_run hf (r_move hf rfl) rfl fun a hf => ?_
          refine o_skip hf (g := 101) rfl rfl rfl rfl rfl rfl fun a hf => ?_
          refine o_skip hf (g := 101) rfl rfl rfl rfl rfl rfl fun a hf => ?_
          refine o_run hf (r_pickF hf rfl rfl) rfl fun a hf => ?_
          refine o_run hf (r_move hf rfl) rfl fun a hf => ?_
          refine o_skip hf (g := 105) rfl rfl rfl rfl rfl rfl fun a hf => ?_
          refine o_run hf (r_pickF hf rfl rfl) rfl fun a hf => ?_
          refine o_run hf (r_move hf rfl) rfl fun a hf => ?_
          refine o_skip hf (g := 108) rfl rfl rfl rfl rfl rfl fun a hf => ?_
          refine o_skip hf (g := 108) rfl rfl rfl rfl rfl rfl fun a hf => ?_
          refine o_run hf (r_pickF hf rfl rfl) rfl fun a hf => ?_
          refine o_run hf (r_assign hf rfl) rfl fun a hf => ?_
          refine o_nil ?_
          refine c_then ?_
          have ho := out_inj hp
          subst ho
          exact ⟨false, I101, rfl, hle102, hw, hf.to ⟨rfl, trivial⟩⟩
      · intro a w hM
        obtain ⟨y89, I88, rfl, hle126, hw, hf⟩ := hM
        replace hp := hq91
        refine wp_ret ?_
        have ho := out_inj hp
        subst ho
        exact b_ret1 hf Go.Proofs.Try.results13 rfl ⟨_, rfl, ⟨rfl, (hw.back (IH.le_trans (IH.le_trans (IH.le_trans (IH.le_trans hle1104 hle1116) hle317) hle101) hle126) (List.Sublist.refl _))⟩⟩

set_option maxHeartbeats 1000000 in
set_option maxRecDepth 20000 in
theorem ref02_Key_ok {E : World} {I : IH} {F : List Atom} {w : World} {a0 : ByteArray} {res0 : ref02_Text_T} (hw : Ok E I (F) w) (hp : ref02_Key.f a0 = some res0) :
    Calls P 62 ⟨[Value.string a0]⟩ w fun e w' => ∃ v, e = .returned v ∧ v = Value.agg ⟨[Value.string res0.s_, Value.bool res0.ok_]⟩ ∧ Ok E I (F) w' := by
  refine c_enter Go.Proofs.Try.func62 rfl Go.Proofs.Try.ntmps62 rfl fun a hf => ?_
  replace hf : Fr 40 [(0, Value.string a0)] a := hf
  unfold ref02_Key.f at hp
  refine wp_seq ?_
  refine wp_region_lit ?_
  obtain ⟨b1, w, hrun2, hw⟩ := e_alloc (P := P) (a := a) hw ty_126
  replace hw : Ok E I (.blk b1 (.cells ⟨[Value.string (⟨#[]⟩ : ByteArray), Value.bool false]⟩ 126 (0, 0)) :: F) w := hw
  refine o_eff hf (hrun2 ..) rfl fun a hf => ?_
  refine o_nil ?_
  refine c_then ?_
  refine wp_seq ?_
  refine wp_region_lit ?_
  refine o_run hf (r_assign hf rfl) rfl fun a hf => ?_
  refine o_nil ?_
  refine c_then ?_
  refine wp_seq ?_
  refine wp_seq ?_
  refine wp_region_lit ?_
  refine o_run hf (r_assign hf rfl) rfl fun a hf => ?_
  refine o_nil ?_
  refine c_then ?_
  replace hw := hw.nilrow 5 1
  have hRR168 : RowR (ekI .u8) I [] [] := RowR.nil
  obtain ⟨out546, hp, hq547⟩ := bind_some hp
  refine c_cutX (fun a w => ∃ y541 : List Int, ∃ yv542 : Value, ∃ m543 : Nat, ∃ cs544 : List Value, (.inl y541) = out546 ∧ Ok E I (.row yv542 5 1 m543 cs544 :: .blk b1 (.cells ⟨[Value.string (⟨#[]⟩ : ByteArray), Value.bool false]⟩ 126 (0, 0)) :: F) w ∧ Fr 40 ([(2, Value.pointer (some ⟨b1, 0, none⟩)), (3, yv542)]) a ∧ RowR (ekI .u8) I cs544 y541) ?_ ?_
  · refine wp_block ?_
    refine c_loop ?_
    refine c_fuel (ref02_Key.l0 a0) out546 (fun (y415, y420) a w => ∃ yv416 : Value, ∃ m417 : Nat, ∃ cs418 : List Value, Ok E I (.row yv416 5 1 m417 cs418 :: .blk b1 (.cells ⟨[Value.string (⟨#[]⟩ : ByteArray), Value.bool false]⟩ 126 (0, 0)) :: F) w ∧ Fr 40 ([(0, Value.string a0), (2, Value.pointer (some ⟨b1, 0, none⟩)), (3, yv416), (4, Value.int .i64 y420)]) a ∧ RowR (ekI .u8) I cs418 y415) (fun _ => rfl) ?_ BIG (([] : List Int), 0) _ _ ⟨(Value.slice none 0 0), 0, [], hw, hf.to ⟨rfl, rfl, rfl, rfl, trivial⟩, hRR168⟩ hp
    intro k st a w hI hp ih
    obtain ⟨y415, y420⟩ := st
    obtain ⟨yv416, m417, cs418, hw, hf, hRR419⟩ := hI
    rw [ref02_Key.l0] at hp
    refine wp_seq ?_
    refine wp_seq ?_
    refine wp_region_lit ?_
    refine o_run hf (r_move hf rfl) rfl fun a hf => ?_
    refine o_run hf (r_move hf rfl) rfl fun a hf => ?_
    refine o_run hf (r_lenS hf und_9 rfl) rfl fun a hf => ?_
    refine o_run hf (r_icmp hf rfl rfl rfl) rfl fun a hf => ?_
    refine o_nil ?_
    refine c_then ?_
    refine c_cond hf rfl (fun hb549 => ?_) (fun hb549 => ?_)
    · replace hp := cond_t hb549 hp
      refine wp_skip ?_
      refine c_then ?_
      obtain ⟨out629, hp, hq630⟩ := bind_some hp
      refine c_cut (fun a w => ∃ y624 : List Int, ∃ yv625 : Value, ∃ m626 : Nat, ∃ cs627 : List Value, (.inl y624) = out629 ∧ Ok E I (.row yv625 5 1 m626 cs627 :: .blk b1 (.cells ⟨[Value.string (⟨#[]⟩ : ByteArray), Value.bool false]⟩ 126 (0, 0)) :: F) w ∧ Fr 40 ([(0, Value.string a0), (2, Value.pointer (some ⟨b1, 0, none⟩)), (3, yv625), (4, Value.int .i64 y420)]) a ∧ RowR (ekI .u8) I cs627 y624) ?_ ?_
      · refine wp_block ?_
        refine wp_seq ?_
        obtain ⟨out647, hp, hq648⟩ := bind_some hp
        refine c_cut (fun a w => ∃ y646 : Bool, y646 = out647 ∧ Ok E I (.row yv416 5 1 m417 cs418 :: .blk b1 (.cells ⟨[Value.string (⟨#[]⟩ : ByteArray), Value.bool false]⟩ 126 (0, 0)) :: F) w ∧ Fr 40 ([(0, Value.string a0), (2, Value.pointer (some ⟨b1, 0, none⟩)), (3, yv416), (4, Value.int .i64 y420), (20, Value.bool y646)]) a) ?_ ?_
        · refine wp_region_lit ?_
          refine o_run hf (r_move hf rfl) rfl fun a hf => ?_
          refine o_run hf (r_move hf rfl) rfl fun a hf => ?_
          obtain ⟨hg649, hp⟩ := gd_some hp
          refine o_run hf (r_indexS hf und_9 rfl rfl hg649) rfl fun a hf => ?_
          refine o_run hf (r_icmp hf rfl rfl rfl) rfl fun a hf => ?_
          refine o_run hf (r_move hf rfl) rfl fun a hf => ?_
          refine g_split hf (g := 15) rfl (fun hb650 hf => ?_) (fun hb650 hf => ?_)
          · replace hp := cond_t hb650 hp
            refine o_skip hf (g := 15) rfl rfl rfl rfl rfl rfl fun a hf => ?_
            refine o_skip hf (g := 15) rfl rfl rfl rfl rfl rfl fun a hf => ?_
            refine o_skip hf (g := 15) rfl rfl rfl rfl rfl rfl fun a hf => ?_
            refine o_skip hf (g := 15) rfl rfl rfl rfl rfl rfl fun a hf => ?_
            refine o_run hf (r_pickT hf rfl rfl) rfl fun a hf => ?_
            refine o_nil ?_
            refine c_then ?_
            have ho := out_inj hp
            subst ho
            exact ⟨true, rfl, hw, hf.to ⟨rfl, rfl, rfl, rfl, rfl, trivial⟩⟩
          · replace hp := cond_f hb650 hp
            refine o_want hf (g := 15) rfl rfl ?_
            refine o_run hf (r_move hf rfl) rfl fun a hf => ?_
            refine o_want hf (g := 15) rfl rfl ?_
            refine o_run hf (r_lenS hf und_9 rfl) rfl fun a hf => ?_
            refine o_want hf (g := 15) rfl rfl ?_
            refine o_run hf (r_rem hf rfl rfl (by decide)) rfl fun a hf => ?_
            refine o_want hf (g := 15) rfl rfl ?_
            refine o_run hf (r_icmp hf rfl rfl rfl) rfl fun a hf => ?_
            refine o_run hf (r_pickF hf rfl rfl) rfl fun a hf => ?_
            refine o_nil ?_
            refine c_then ?_
            have ho := out_inj hp
            subst ho
            exact ⟨(((a0.size : Int).tmod 2) != 0), rfl, hw, hf.to ⟨rfl, rfl, rfl, rfl, rfl, trivial⟩⟩
        · intro a w hM
          obtain ⟨y646, rfl, hw, hf⟩ := hM
          replace hp := hq648
          refine c_cond hf rfl (fun hb651 => ?_) (fun hb651 => ?_)
          · replace hp := cond_t hb651 hp
            refine wp_seq ?_
            refine wp_region_lit ?_
            refine o_run hf (r_build hf bd_126 (vs := []) rfl trivial (by decide) (out := [Value.string (⟨#[]⟩ : ByteArray), Value.bool false]) rfl) rfl fun a hf => ?_
            obtain ⟨w, hrun652, hw⟩ := e_store (P := P) hw hf (x := .tmp 2) (y := .tmp 21) rfl rfl ty_126 1 rfl (vs := [Value.string (⟨#[]⟩ : ByteArray), Value.bool false]) rfl rfl (ones_cons rfl (ones_cons rfl ones_nil)) (by simp [arrC_len]) (cs' := [Value.string (⟨#[]⟩ : ByteArray), Value.bool false]) rfl
            replace hw : Ok E I (.row yv416 5 1 m417 cs418 :: .blk b1 (.cells ⟨[Value.string (⟨#[]⟩ : ByteArray), Value.bool false]⟩ 126 (0, 0)) :: F) w := hw
            refine o_effU (hrun652 ..) ?_
            refine o_nil ?_
            refine c_then ?_
            refine wp_ret ?_
            refine c_thenR ?_
            refine c_blockR ?_
            refine c_thenR ?_
            have ho := out_inj hp
            subst ho
            replace hp := hq630
            refine c_thenR ?_
            refine c_blockR ?_
            refine c_thenR ?_
            have ho := out_inj hp
            subst ho
            replace hp := hq547
            refine c_thenR ?_
            replace hw : Ok E I (.blk b1 (.cells ⟨[Value.string (⟨#[]⟩ : ByteArray), Value.bool false]⟩ 126 (0, 0)) :: F) w := hw.sub (List.Sublist.cons _ (List.Sublist.cons_cons _ (List.Sublist.refl _)))
            have ho := out_inj hp
            subst ho
            exact b_retC hw hf Go.Proofs.Try.results62 ty_126 rfl 0 rfl (vs := [Value.string (⟨#[]⟩ : ByteArray), Value.bool false]) rfl rfl ⟨_, rfl, ⟨rfl, hw.tail⟩⟩
          · replace hp := cond_f hb651 hp
            refine wp_skip ?_
            refine c_then ?_
            refine wp_seq ?_
            refine wp_region_lit ?_
            refine o_run hf (r_move hf rfl) rfl fun a hf => ?_
            refine o_run hf (r_rem hf rfl rfl (by decide)) rfl fun a hf => ?_
            refine o_run hf (r_icmp hf rfl rfl rfl) rfl fun a hf => ?_
            refine o_nil ?_
            refine c_then ?_
            refine c_cond hf rfl (fun hb653 => ?_) (fun hb653 => ?_)
            · replace hp := cond_t hb653 hp
              refine c_drawn mix [] (.rd 0 (.rd 1 (.rd 2 (.rd 3 (.rd 4 (.rd 5 (.rd 6 (.rd 7 (.rd 8 (.rd 9 (.ef 10 (.ef 11 (.rd 12 .done))))))))))))) (by kernel_rfl) hw (fun w => Ok E I (.blk b1 (.cells ⟨[Value.string (⟨#[]⟩ : ByteArray), Value.bool false]⟩ 126 (0, 0)) :: F) w) (fun w hw => ⟨hw.sub (List.Sublist.cons _ (List.Sublist.cons_cons _ (List.Sublist.refl _))), ?_⟩)
              refine t_rd rfl hf (fun w hw => r_move hf rfl) rfl fun a hf => ?_
              refine t_rd rfl hf (fun w hw => r_move hf rfl) rfl fun a hf => ?_
              refine t_rd rfl hf (fun w hw => r_move hf rfl) rfl fun a hf => ?_
              refine t_rd rfl hf (fun w hw => r_sub hf rfl rfl) rfl fun a hf => ?_
              obtain ⟨hg655, hp⟩ := gd_some hp
              refine t_rd rfl hf (fun w hw => r_indexS hf und_9 rfl rfl hg655) rfl fun a hf => ?_
              refine t_rd rfl hf (fun w hw => r_mul hf rfl rfl) rfl fun a hf => ?_
              refine t_rd rfl hf (fun w hw => r_move hf rfl) rfl fun a hf => ?_
              refine t_rd rfl hf (fun w hw => r_move hf rfl) rfl fun a hf => ?_
              obtain ⟨hg656, hp⟩ := gd_some hp
              refine t_rd rfl hf (fun w hw => r_indexS hf und_9 rfl rfl hg656) rfl fun a hf => ?_
              refine t_rd rfl hf (fun w hw => r_add hf rfl rfl) rfl fun a hf => ?_
              refine t_ef rfl ?_
              obtain ⟨w, v657, hrun658, hw, hRR659⟩ := e_buildSlice (P := P) (K := (ekI .u8)) (m := 1) hw hf (parts := [(0, .tmp 34)]) el_53 ty_5 rfl rfl rfl (ccs := [[Value.int .u8 (wu8 ((wu8 ((bt a0 (w64 (y420 - 1))) * 16)) + (bt a0 y420)))]]) rfl (xs := [wu8 ((wu8 ((bt a0 (w64 (y420 - 1))) * 16)) + (bt a0 y420))]) ⟨rfl, trivial⟩ rfl
              obtain ⟨cs660, hcs⟩ : ∃ cs, cs = ([[Value.int .u8 (wu8 ((wu8 ((bt a0 (w64 (y420 - 1))) * 16)) + (bt a0 y420)))]] : List (List Value)).flatten := ⟨_, rfl⟩
              rw [← hcs] at hw hRR659; clear hcs
              refine t_eff hf (hrun658 ..) rfl fun a hf => ⟨.inr (hw.back (IH.le_refl _) (List.Sublist.cons _ (List.Sublist.cons _ (List.Sublist.cons_cons _ (List.Sublist.refl _))))), ?_⟩
              refine t_ef rfl ?_
              obtain ⟨hg662, hp⟩ := gd_some hp
              obtain ⟨w, v663, m664, cs665, hrun667, hw, hRR666⟩ := e_append (P := P) (K := (ekI .u8)) (ty := 53) hw hf (s := .tmp 25) (x := .tmp 35) el_53 ty_5 rfl (by decide) 1 rfl rfl rfl hRR419 (ys := [wu8 ((wu8 ((bt a0 (w64 (y420 - 1))) * 16)) + (bt a0 y420))]) (row_rd (K := (ekI .u8)) hw (i := 0) rfl hRR659) hg662
              replace hw : Ok E I (.row v657 5 1 1 cs660 :: .row v663 5 1 m664 cs665 :: .blk b1 (.cells ⟨[Value.string (⟨#[]⟩ : ByteArray), Value.bool false]⟩ 126 (0, 0)) :: F) w := hw
              refine t_eff hf (hrun667 ..) rfl fun a hf => ⟨.inr (hw.back (IH.le_refl _) (List.Sublist.cons _ (List.Sublist.cons _ (List.Sublist.cons_cons _ (List.Sublist.refl _))))), ?_⟩
              refine t_rd rfl hf (fun w hw => r_assign hf rfl) rfl fun a hf => ?_
              refine t_done ?_
              refine c_blockN ?_
              refine c_then ?_
              have ho := out_inj hp
              subst ho
              replace hw : Ok E I (.row v663 5 1 m664 cs665 :: .blk b1 (.cells ⟨[Value.string (⟨#[]⟩ : ByteArray), Value.bool false]⟩ 126 (0, 0)) :: F) w := hw.sub (List.Sublist.cons _ (List.Sublist.cons_cons _ (List.Sublist.cons_cons _ (List.Sublist.refl _))))
              exact ⟨(y415 ++ [wu8 ((wu8 ((bt a0 (w64 (y420 - 1))) * 16)) + (bt a0 y420))]), v663, m664, cs665, rfl, hw, hf.to ⟨rfl, rfl, rfl, rfl, trivial⟩, hRR666⟩
            · replace hp := cond_f hb653 hp
              refine wp_skip ?_
              refine c_blockN ?_
              refine c_then ?_
              have ho := out_inj hp
              subst ho
              exact ⟨y415, yv416, m417, cs418, rfl, hw, hf.to ⟨rfl, rfl, rfl, rfl, trivial⟩, hRR419⟩
      · intro a w hM
        obtain ⟨y624, yv625, m626, cs627, rfl, hw, hf, hRR628⟩ := hM
        replace hp := hq630
        refine wp_region_lit ?_
        refine o_run hf (r_move hf rfl) rfl fun a hf => ?_
        refine o_run hf (r_add hf rfl rfl) rfl fun a hf => ?_
        refine o_run hf (r_assign hf rfl) rfl fun a hf => ?_
        refine o_nil ?_
        refine c_then ?_
        exact ih (y624, w64 (y420 + 1)) _ _ ⟨yv625, m626, cs627, hw, hf.to ⟨rfl, rfl, rfl, rfl, trivial⟩, hRR628⟩ hp
    · replace hp := cond_f hb549 hp
      refine wp_exit ?_
      refine c_thenE ?_
      refine c_thenE ?_
      refine c_exit ?_
      refine c_then ?_
      have ho := out_inj hp
      subst ho
      exact ⟨y415, yv416, m417, cs418, rfl, hw, hf.to ⟨rfl, rfl, trivial⟩, hRR419⟩
  · intro a w hM
    obtain ⟨y541, yv542, m543, cs544, rfl, hw, hf, hRR545⟩ := hM
    replace hp := hq547
    refine c_then ?_
    refine wp_seq ?_
    refine wp_region_lit ?_
    refine o_run hf (r_move hf rfl) rfl fun a hf => ?_
    refine o_run hf (r_convB hf und_53 und_5 und_9 rfl (row_rd (K := (ekI .u8)) hw (i := 0) rfl hRR545)) rfl fun a hf => ?_
    refine o_run hf (r_build hf bd_126 (vs := [Value.string (strOfNums y541), Value.bool true]) rfl ⟨rfl, rfl, trivial⟩ (by decide) (out := [Value.string (strOfNums y541), Value.bool true]) rfl) rfl fun a hf => ?_
    obtain ⟨w, hrun670, hw⟩ := e_store (P := P) hw hf (x := .tmp 2) (y := .tmp 39) rfl rfl ty_126 1 rfl (vs := [Value.string (strOfNums y541), Value.bool true]) rfl rfl (ones_cons rfl (ones_cons rfl ones_nil)) (by simp [arrC_len]) (cs' := [Value.string (strOfNums y541), Value.bool true]) rfl
    replace hw : Ok E I (.row yv542 5 1 m543 cs544 :: .blk b1 (.cells ⟨[Value.string (strOfNums y541), Value.bool true]⟩ 126 (0, 0)) :: F) w := hw
    refine o_effU (hrun670 ..) ?_
    refine o_nil ?_
    refine c_then ?_
    refine wp_ret ?_
    replace hw : Ok E I (.blk b1 (.cells ⟨[Value.string (strOfNums y541), Value.bool true]⟩ 126 (0, 0)) :: F) w := hw.sub (List.Sublist.cons _ (List.Sublist.cons_cons _ (List.Sublist.refl _)))
    have ho := out_inj hp
    subst ho
    exact b_retC hw hf Go.Proofs.Try.results62 ty_126 rfl 0 rfl (vs := [Value.string (strOfNums y541), Value.bool true]) rfl rfl ⟨_, rfl, ⟨rfl, hw.tail⟩⟩
end Go.Lf
