/- The Go functions compute the plain Lean functions (printed by our lift.py). -/
import Derived.Test.YtckhmgglgbnaaaaDoorZD
import Derived.Test.YtckhmgglgbnaaaaDoorZF
import Derived.Test.YtckhmgglgbnaaaaDoorJ
import Derived.Test.YtckhmgglgbnaaaaDoorZK0
import Derived.Test.YtckhmgglgbnaaaaDoorZK1
import Derived.Test.YtckhmgglgbnaaaaDoorZK8
import Derived.Test.YtckhmgglgbnaaaaDoorZK9
import Derived.Test.YtckhmgglgbnaaaaDoorZK10
import Derived.Test.YtckhmgglgbnaaaaDoorZK13
set_option linter.unusedVariables false
set_option linter.unusedSimpArgs false
namespace Go.Lf
open Go
set_option maxHeartbeats 1000000 in
set_option maxRecDepth 20000 in
theorem law11_RootValue_ok {E : World} {I : IH} {F : List Atom} {w : World} {a0 : List Pair} {a0v4703 : Value} {a1 : Int} {a2 : ByteArray} {res0 : Bool} (hw : Ok E I (F) w) (hG : Gl I) (hR4704 : RS ek_Pair I a0v4703 a0) (hp : law11_RootValue.f a0 a1 a2 = some res0) :
    Calls P 6 ⟨[a0v4703, Value.int .u8 a1, Value.string a2]⟩ w fun e w' => ∃ v, e = .returned v ∧ v = Value.bool res0 ∧ Ok E I (F) w' := by
  refine c_enter Go.Proofs.Tryd.func6 rfl Go.Proofs.Tryd.ntmps6 rfl fun a hf => ?_
  replace hf : Fr 170 [(0, a0v4703), (1, Value.int .u8 a1), (2, Value.string a2)] a := hf
  unfold law11_RootValue.f at hp
  refine wp_seq ?_
  refine wp_region_lit ?_
  refine o_run hf (r_assign hf rfl) rfl fun a hf => ?_
  refine o_nil ?_
  refine c_then ?_
  refine wp_seq ?_
  obtain ⟨out92, hp, hq93⟩ := bind_some hp
  refine c_cut (fun a w => ∃ y91 : Bool, y91 = out92 ∧ Ok E I (F) w ∧ Fr 170 ([(0, a0v4703), (1, Value.int .u8 a1), (2, Value.string a2), (41, Value.bool y91)]) a) ?_ ?_
  · refine wp_region_lit ?_
    refine o_run hf (r_move hf rfl) rfl fun a hf => ?_
    obtain ⟨y94, hy95, hp⟩ := bind_some hp
    have hc97 := keep_LongPairs_ok hw hG hR4704 hy95
    refine o_call hf cb_24 rfl rfl hc97 (fun v99 w a hK98 hf => ?_)
    obtain ⟨rfl, hw⟩ := hK98
    refine o_run hf (r_move hf rfl) rfl fun a hf => ?_
    refine g_split hf (g := 22) rfl (fun hb100 hf => ?_) (fun hb100 hf => ?_)
    · replace hp := cond_t hb100 hp
      refine o_skip hf (g := 22) rfl rfl rfl rfl rfl rfl fun a hf => ?_
      refine o_skip hf (g := 22) rfl rfl rfl rfl rfl rfl fun a hf => ?_
      refine o_skip hf (g := 22) rfl rfl rfl rfl rfl rfl fun a hf => ?_
      refine o_run hf (r_pickT hf rfl rfl) rfl fun a hf => ?_
      refine o_run hf (r_move hf rfl) rfl fun a hf => ?_
      refine o_skip hf (g := 27) rfl rfl rfl rfl rfl rfl fun a hf => ?_
      refine o_skip hf (g := 27) rfl rfl rfl rfl rfl rfl fun a hf => ?_
      refine o_skip hf (g := 27) rfl rfl rfl rfl rfl rfl fun a hf => ?_
      refine o_run hf (r_pickT hf rfl rfl) rfl fun a hf => ?_
      refine o_run hf (r_move hf rfl) rfl fun a hf => ?_
      refine o_skip hf (g := 32) rfl rfl rfl rfl rfl rfl fun a hf => ?_
      refine o_skip hf (g := 32) rfl rfl rfl rfl rfl rfl fun a hf => ?_
      refine o_skip hf (g := 32) rfl rfl rfl rfl rfl rfl fun a hf => ?_
      refine o_run hf (r_pickT hf rfl rfl) rfl fun a hf => ?_
      refine o_run hf (r_move hf rfl) rfl fun a hf => ?_
      refine o_skip hf (g := 37) rfl rfl rfl rfl rfl rfl fun a hf => ?_
      refine o_skip hf (g := 37) rfl rfl rfl rfl rfl rfl fun a hf => ?_
      refine o_skip hf (g := 37) rfl rfl rfl rfl rfl rfl fun a hf => ?_
      refine o_run hf (r_pickT hf rfl rfl) rfl fun a hf => ?_
      refine o_nil ?_
      refine c_then ?_
      have ho := out_inj hp
      subst ho
      exact ⟨true, rfl, hw, hf.to ⟨rfl, rfl, rfl, rfl, trivial⟩⟩
    · replace hp := cond_f hb100 hp
      refine o_want hf (g := 22) rfl rfl ?_
      refine o_run hf (r_move hf rfl) rfl fun a hf => ?_
      refine o_want hf (g := 22) rfl rfl ?_
      obtain ⟨y101, hy102, hp⟩ := bind_some hp
      have hc104 := ref10_May_ok hw hG hR4704 hy102
      refine o_call hf cb_25 rfl rfl hc104 (fun v106 w a hK105 hf => ?_)
      obtain ⟨rfl, hw⟩ := hK105
      refine o_want hf (g := 22) rfl rfl ?_
      refine o_run hf (r_not hf rfl) rfl fun a hf => ?_
      refine o_run hf (r_pickF hf rfl rfl) rfl fun a hf => ?_
      refine o_run hf (r_move hf rfl) rfl fun a hf => ?_
      refine g_split hf (g := 27) rfl (fun hb107 hf => ?_) (fun hb107 hf => ?_)
      · replace hp := cond_t hb107 hp
        refine o_skip hf (g := 27) rfl rfl rfl rfl rfl rfl fun a hf => ?_
        refine o_skip hf (g := 27) rfl rfl rfl rfl rfl rfl fun a hf => ?_
        refine o_skip hf (g := 27) rfl rfl rfl rfl rfl rfl fun a hf => ?_
        refine o_run hf (r_pickT hf rfl rfl) rfl fun a hf => ?_
        refine o_run hf (r_move hf rfl) rfl fun a hf => ?_
        refine o_skip hf (g := 32) rfl rfl rfl rfl rfl rfl fun a hf => ?_
        refine o_skip hf (g := 32) rfl rfl rfl rfl rfl rfl fun a hf => ?_
        refine o_skip hf (g := 32) rfl rfl rfl rfl rfl rfl fun a hf => ?_
        refine o_run hf (r_pickT hf rfl rfl) rfl fun a hf => ?_
        refine o_run hf (r_move hf rfl) rfl fun a hf => ?_
        refine o_skip hf (g := 37) rfl rfl rfl rfl rfl rfl fun a hf => ?_
        refine o_skip hf (g := 37) rfl rfl rfl rfl rfl rfl fun a hf => ?_
        refine o_skip hf (g := 37) rfl rfl rfl rfl rfl rfl fun a hf => ?_
        refine o_run hf (r_pickT hf rfl rfl) rfl fun a hf => ?_
        refine o_nil ?_
        refine c_then ?_
        have ho := out_inj hp
        subst ho
        exact ⟨true, rfl, hw, hf.to ⟨rfl, rfl, rfl, rfl, trivial⟩⟩
      · replace hp := cond_f hb107 hp
        refine o_want hf (g := 27) rfl rfl ?_
        refine o_run hf (r_move hf rfl) rfl fun a hf => ?_
        refine o_want hf (g := 27) rfl rfl ?_
        refine o_run hf (r_lenL (K := ek_Pair) hf el_45 rfl (hR4704.rd hw)) rfl fun a hf => ?_
        refine o_want hf (g := 27) rfl rfl ?_
        refine o_run hf (r_icmp hf rfl rfl rfl) rfl fun a hf => ?_
        refine o_run hf (r_pickF hf rfl rfl) rfl fun a hf => ?_
        refine o_run hf (r_move hf rfl) rfl fun a hf => ?_
        refine g_split hf (g := 32) rfl (fun hb108 hf => ?_) (fun hb108 hf => ?_)
        · replace hp := cond_t hb108 hp
          refine o_skip hf (g := 32) rfl rfl rfl rfl rfl rfl fun a hf => ?_
          refine o_skip hf (g := 32) rfl rfl rfl rfl rfl rfl fun a hf => ?_
          refine o_skip hf (g := 32) rfl rfl rfl rfl rfl rfl fun a hf => ?_
          refine o_run hf (r_pickT hf rfl rfl) rfl fun a hf => ?_
          refine o_run hf (r_move hf rfl) rfl fun a hf => ?_
          refine o_skip hf (g := 37) rfl rfl rfl rfl rfl rfl fun a hf => ?_
          refine o_skip hf (g := 37) rfl rfl rfl rfl rfl rfl fun a hf => ?_
          refine o_skip hf (g := 37) rfl rfl rfl rfl rfl rfl fun a hf => ?_
          refine o_run hf (r_pickT hf rfl rfl) rfl fun a hf => ?_
          refine o_nil ?_
          refine c_then ?_
          have ho := out_inj hp
          subst ho
          exact ⟨true, rfl, hw, hf.to ⟨rfl, rfl, rfl, rfl, trivial⟩⟩
        · replace hp := cond_f hb108 hp
          refine o_want hf (g := 32) rfl rfl ?_
          refine o_run hf (r_move hf rfl) rfl fun a hf => ?_
          refine o_want hf (g := 32) rfl rfl ?_
          refine o_run hf (r_lenL (K := ek_Pair) hf el_45 rfl (hR4704.rd hw)) rfl fun a hf => ?_
          refine o_want hf (g := 32) rfl rfl ?_
          refine o_run hf (r_icmp hf rfl rfl rfl) rfl fun a hf => ?_
          refine o_run hf (r_pickF hf rfl rfl) rfl fun a hf => ?_
          refine o_run hf (r_move hf rfl) rfl fun a hf => ?_
          refine g_split hf (g := 37) rfl (fun hb109 hf => ?_) (fun hb109 hf => ?_)
          · replace hp := cond_t hb109 hp
            refine o_skip hf (g := 37) rfl rfl rfl rfl rfl rfl fun a hf => ?_
            refine o_skip hf (g := 37) rfl rfl rfl rfl rfl rfl fun a hf => ?_
            refine o_skip hf (g := 37) rfl rfl rfl rfl rfl rfl fun a hf => ?_
            refine o_run hf (r_pickT hf rfl rfl) rfl fun a hf => ?_
            refine o_nil ?_
            refine c_then ?_
            have ho := out_inj hp
            subst ho
            exact ⟨true, rfl, hw, hf.to ⟨rfl, rfl, rfl, rfl, trivial⟩⟩
          · replace hp := cond_f hb109 hp
            refine o_want hf (g := 37) rfl rfl ?_
            refine o_run hf (r_move hf rfl) rfl fun a hf => ?_
            refine o_want hf (g := 37) rfl rfl ?_
            refine o_run hf (r_lenS hf und_9 rfl) rfl fun a hf => ?_
            refine o_want hf (g := 37) rfl rfl ?_
            refine o_run hf (r_icmp hf rfl rfl rfl) rfl fun a hf => ?_
            refine o_run hf (r_pickF hf rfl rfl) rfl fun a hf => ?_
            refine o_nil ?_
            refine c_then ?_
            have ho := out_inj hp
            subst ho
            exact ⟨(decide ((a2.size : Int) > 16)), rfl, hw, hf.to ⟨rfl, rfl, rfl, rfl, trivial⟩⟩
  · intro a w hM
    obtain ⟨y91, rfl, hw, hf⟩ := hM
    replace hp := hq93
    refine c_cond hf rfl (fun hb110 => ?_) (fun hb110 => ?_)
    · replace hp := cond_t hb110 hp
      refine wp_seq ?_
      refine wp_region_lit ?_
      obtain ⟨y111, hy112, hp⟩ := bind_some hp
      have hc114 := law11_wakes_ok hw hG hy112
      refine o_call hf cb_13 rfl rfl hc114 (fun v116 w a hK115 hf => ?_)
      obtain ⟨rfl, hw⟩ := hK115
      refine o_run hf (r_assign hf rfl) rfl fun a hf => ?_
      refine o_nil ?_
      refine c_then ?_
      refine wp_ret ?_
      refine c_thenR ?_
      have ho := out_inj hp
      subst ho
      exact b_ret1 hf Go.Proofs.Tryd.results6 rfl ⟨_, rfl, ⟨rfl, hw⟩⟩
    · replace hp := cond_f hb110 hp
      refine wp_skip ?_
      refine c_then ?_
      refine wp_seq ?_
      refine wp_region_lit ?_
      refine o_run hf (r_move hf rfl) rfl fun a hf => ?_
      refine o_run hf (r_convI hf und_5 und_3 rfl) rfl fun a hf => ?_
      refine o_run hf (r_move hf rfl) rfl fun a hf => ?_
      refine o_run hf (r_lenL (K := ek_Pair) hf el_45 rfl (hR4704.rd hw)) rfl fun a hf => ?_
      obtain ⟨hg117, hp⟩ := gd_some hp
      refine o_run hf (r_rem hf rfl rfl hg117) rfl fun a hf => ?_
      refine o_run hf (r_assign hf rfl) rfl fun a hf => ?_
      refine o_nil ?_
      refine c_then ?_
      refine wp_seq ?_
      refine wp_region_lit ?_
      obtain ⟨w, v118, hrun119, hw, hRR120⟩ := e_buildSlice (P := P) (K := ek_Pair) (m := 0) hw hf (parts := []) el_45 ty_58 rfl rfl rfl (ccs := []) rfl (xs := ([] : List Pair)) trivial rfl
      obtain ⟨cs121, hcs⟩ : ∃ cs, cs = ([] : List (List Value)).flatten := ⟨_, rfl⟩
      rw [← hcs] at hw hRR120; clear hcs
      refine o_eff hf (hrun119 ..) rfl fun a hf => ?_
      refine o_run hf (r_move hf rfl) rfl fun a hf => ?_
      obtain ⟨hg123, hp⟩ := gd_some hp
      obtain ⟨w, v124, m125, cs126, hrun128, hw, hRR127⟩ := e_append (P := P) (K := ek_Pair) (ty := 45) hw hf (s := .tmp 48) (x := .tmp 49) el_45 ty_58 rfl (by decide) 0 rfl rfl rfl hRR120 (ys := a0) (hR4704.rd hw) hg123
      replace hw : Ok E I (.row v124 58 2 m125 cs126 :: F) w := hw
      refine o_eff hf (hrun128 ..) rfl fun a hf => ?_
      refine o_run hf (r_assign hf rfl) rfl fun a hf => ?_
      refine o_nil ?_
      refine c_then ?_
      refine wp_seq ?_
      refine wp_region_lit ?_
      refine o_run hf (r_move hf rfl) rfl fun a hf => ?_
      refine o_run hf (r_move hf rfl) rfl fun a hf => ?_
      refine o_run hf (r_move hf rfl) rfl fun a hf => ?_
      obtain ⟨hg129, hp⟩ := gd_some hp
      refine o_run hf (r_indexAddr (K := ek_Pair) hf el_45 rfl rfl (row_rd (K := ek_Pair) hw (i := 0) rfl hRR127) hg129) rfl fun a hf => ?_
      refine o_run hf (r_fieldAddrH hf rfl fd_58_1) rfl fun a hf => ?_
      obtain ⟨w, cs131, hrun130, hw, hRR132⟩ := e_storeH (P := P) (K := ek_Pair) hw hf (x := .tmp 55) (y := .tmp 53) rfl rfl ty_9 0 rfl hRR127 hg129 rfl (vs := [Value.string a2]) (one_cells rfl) rfl (ones_cons rfl ones_nil) (by decide) (x' := { gt (([] : List Pair) ++ a0) ((w64 a1).tmod (a0.length : Int)) with value_ := a2 }) (fun c h => Pair_set1 h)
      replace hw : Ok E I (.row v124 58 2 m125 cs131 :: F) w := hw
      refine o_effU (hrun130 ..) ?_
      refine o_nil ?_
      refine c_then ?_
      refine wp_seq ?_
      refine wp_region_lit ?_
      refine o_run hf (r_move hf rfl) rfl fun a hf => ?_
      obtain ⟨y133, hy134, hp⟩ := bind_some hp
      have hc136 := ref10_Build_ok hw hG hR4704 hy134
      refine o_call hf cb_26 rfl rfl hc136 (fun v142 w a hK137 hf => ?_)
      obtain ⟨I2_137, rvv138, rvv140, rfl, hle143, hw, hR139, hR141⟩ := hK137
      replace hG := hG.mono hle143
      replace hR4704 := hR4704.mono hle143
      replace hRR132 := hRR132.mono hle143
      refine o_run hf (r_field hf rfl fd_48_0 ty_23 rfl) rfl fun a hf => ?_
      refine o_run hf (r_move hf rfl) rfl fun a hf => ?_
      have hw : Ok E I2_137 (.row v124 58 2 m125 cs131 :: F) w := hw.front (i := 0) rfl
      obtain ⟨I144, hle145, hw, hR146⟩ := row_freeze (K := ek_Pair) hw hRR132
      replace hG := hG.mono hle145
      replace hR4704 := hR4704.mono hle145
      replace hR139 := hR139.mono hle145
      replace hR141 := hR141.mono hle145
      obtain ⟨y147, hy148, hp⟩ := bind_some hp
      have hc150 := ref10_Build_ok hw hG hR146 hy148
      refine o_call hf cb_26 rfl rfl hc150 (fun v156 w a hK151 hf => ?_)
      obtain ⟨I2_151, rvv152, rvv154, rfl, hle157, hw, hR153, hR155⟩ := hK151
      replace hG := hG.mono hle157
      replace hR4704 := hR4704.mono hle157
      replace hR146 := hR146.mono hle157
      replace hR139 := hR139.mono hle157
      replace hR141 := hR141.mono hle157
      refine o_run hf (r_field hf rfl fd_48_0 ty_23 rfl) rfl fun a hf => ?_
      refine o_run hf (r_assign hf rfl) rfl fun a hf => ?_
      refine o_run hf (r_assign hf rfl) rfl fun a hf => ?_
      refine o_nil ?_
      refine c_then ?_
      refine wp_seq ?_
      refine wp_region_lit ?_
      refine o_run hf (r_move hf rfl) rfl fun a hf => ?_
      obtain ⟨y161, hy160, hp⟩ := bind_some hp
      obtain ⟨y158, y159⟩ := y161
      have hc162 := root_All_ok hw hG hR139 hy160
      refine o_call hf cb_15 rfl rfl hc162 (fun v166 w a hK163 hf => ?_)
      obtain ⟨I2_163, rvv164, rfl, hle167, hw, hR165⟩ := hK163
      replace hG := hG.mono hle167
      replace hR4704 := hR4704.mono hle167
      replace hR146 := hR146.mono hle167
      replace hR139 := hR139.mono hle167
      replace hR141 := hR141.mono hle167
      replace hR153 := hR153.mono hle167
      replace hR155 := hR155.mono hle167
      refine o_run hf (r_move hf rfl) rfl fun a hf => ?_
      refine o_run hf (r_extract hf rfl rfl) rfl fun a hf => ?_
      refine o_run hf (r_extract hf rfl rfl) rfl fun a hf => ?_
      refine o_run hf (r_assign hf rfl) rfl fun a hf => ?_
      refine o_run hf (r_assign hf rfl) rfl fun a hf => ?_
      refine o_nil ?_
      refine c_then ?_
      refine wp_seq ?_
      refine wp_region_lit ?_
      refine o_run hf (r_move hf rfl) rfl fun a hf => ?_
      obtain ⟨y171, hy170, hp⟩ := bind_some hp
      obtain ⟨y168, y169⟩ := y171
      have hc172 := root_All_ok hw hG hR153 hy170
      refine o_call hf cb_15 rfl rfl hc172 (fun v176 w a hK173 hf => ?_)
      obtain ⟨I2_173, rvv174, rfl, hle177, hw, hR175⟩ := hK173
      replace hG := hG.mono hle177
      replace hR4704 := hR4704.mono hle177
      replace hR146 := hR146.mono hle177
      replace hR139 := hR139.mono hle177
      replace hR141 := hR141.mono hle177
      replace hR153 := hR153.mono hle177
      replace hR155 := hR155.mono hle177
      replace hR165 := hR165.mono hle177
      refine o_run hf (r_move hf rfl) rfl fun a hf => ?_
      refine o_run hf (r_extract hf rfl rfl) rfl fun a hf => ?_
      refine o_run hf (r_extract hf rfl rfl) rfl fun a hf => ?_
      refine o_run hf (r_assign hf rfl) rfl fun a hf => ?_
      refine o_run hf (r_assign hf rfl) rfl fun a hf => ?_
      refine o_nil ?_
      refine c_then ?_
      refine wp_seq ?_
      obtain ⟨out203, hp, hq204⟩ := bind_some hp
      refine c_cut (fun a w => ∃ y202 : Bool, y202 = out203 ∧ Ok E I2_173 (F) w ∧ Fr 170 ([(0, a0v4703), (2, Value.string a2), (7, Value.int .i64 ((w64 a1).tmod (a0.length : Int))), (9, rvv138), (10, rvv152), (11, rvv164), (13, rvv174), (98, Value.bool y202)]) a) ?_ ?_
      · refine wp_region_lit ?_
        refine o_run hf (r_move hf rfl) rfl fun a hf => ?_
        refine o_run hf (r_not hf rfl) rfl fun a hf => ?_
        refine o_run hf (r_move hf rfl) rfl fun a hf => ?_
        refine g_split hf (g := 74) rfl (fun hb205 hf => ?_) (fun hb205 hf => ?_)
        · replace hp := cond_t hb205 hp
          refine o_skip hf (g := 74) rfl rfl rfl rfl rfl rfl fun a hf => ?_
          refine o_skip hf (g := 74) rfl rfl rfl rfl rfl rfl fun a hf => ?_
          refine o_run hf (r_pickT hf rfl rfl) rfl fun a hf => ?_
          refine o_run hf (r_move hf rfl) rfl fun a hf => ?_
          refine o_skip hf (g := 78) rfl rfl rfl rfl rfl rfl fun a hf => ?_
          refine o_skip hf (g := 78) rfl rfl rfl rfl rfl rfl fun a hf => ?_
          refine o_skip hf (g := 78) rfl rfl rfl rfl rfl rfl fun a hf => ?_
          refine o_skip hf (g := 78) rfl rfl rfl rfl rfl rfl fun a hf => ?_
          refine o_skip hf (g := 78) rfl rfl rfl rfl rfl rfl fun a hf => ?_
          refine o_run hf (r_pickT hf rfl rfl) rfl fun a hf => ?_
          refine o_run hf (r_move hf rfl) rfl fun a hf => ?_
          refine o_skip hf (g := 85) rfl rfl rfl rfl rfl rfl fun a hf => ?_
          refine o_skip hf (g := 85) rfl rfl rfl rfl rfl rfl fun a hf => ?_
          refine o_skip hf (g := 85) rfl rfl rfl rfl rfl rfl fun a hf => ?_
          refine o_skip hf (g := 85) rfl rfl rfl rfl rfl rfl fun a hf => ?_
          refine o_skip hf (g := 85) rfl rfl rfl rfl rfl rfl fun a hf => ?_
          refine o_run hf (r_pickT hf rfl rfl) rfl fun a hf => ?_
          refine o_run hf (r_move hf rfl) rfl fun a hf => ?_
          refine o_skip hf (g := 92) rfl rfl rfl rfl rfl rfl fun a hf => ?_
          refine o_skip hf (g := 92) rfl rfl rfl rfl rfl rfl fun a hf => ?_
          refine o_skip hf (g := 92) rfl rfl rfl rfl rfl rfl fun a hf => ?_
          refine o_skip hf (g := 92) rfl rfl rfl rfl rfl rfl fun a hf => ?_
          refine o_skip hf (g := 92) rfl rfl rfl rfl rfl rfl fun a hf => ?_
          refine o_run hf (r_pickT hf rfl rfl) rfl fun a hf => ?_
          refine o_nil ?_
          refine c_then ?_
          have ho := out_inj hp
          subst ho
          exact ⟨true, rfl, hw, hf.to ⟨rfl, rfl, rfl, rfl, rfl, rfl, rfl, rfl, trivial⟩⟩
        · replace hp := cond_f hb205 hp
          refine o_want hf (g := 74) rfl rfl ?_
          refine o_run hf (r_move hf rfl) rfl fun a hf => ?_
          refine o_want hf (g := 74) rfl rfl ?_
          refine o_run hf (r_not hf rfl) rfl fun a hf => ?_
          refine o_run hf (r_pickF hf rfl rfl) rfl fun a hf => ?_
          refine o_run hf (r_move hf rfl) rfl fun a hf => ?_
          refine g_split hf (g := 78) rfl (fun hb206 hf => ?_) (fun hb206 hf => ?_)
          · replace hp := cond_t hb206 hp
            refine o_skip hf (g := 78) rfl rfl rfl rfl rfl rfl fun a hf => ?_
            refine o_skip hf (g := 78) rfl rfl rfl rfl rfl rfl fun a hf => ?_
            refine o_skip hf (g := 78) rfl rfl rfl rfl rfl rfl fun a hf => ?_
            refine o_skip hf (g := 78) rfl rfl rfl rfl rfl rfl fun a hf => ?_
            refine o_skip hf (g := 78) rfl rfl rfl rfl rfl rfl fun a hf => ?_
            refine o_run hf (r_pickT hf rfl rfl) rfl fun a hf => ?_
            refine o_run hf (r_move hf rfl) rfl fun a hf => ?_
            refine o_skip hf (g := 85) rfl rfl rfl rfl rfl rfl fun a hf => ?_
            refine o_skip hf (g := 85) rfl rfl rfl rfl rfl rfl fun a hf => ?_
            refine o_skip hf (g := 85) rfl rfl rfl rfl rfl rfl fun a hf => ?_
            refine o_skip hf (g := 85) rfl rfl rfl rfl rfl rfl fun a hf => ?_
            refine o_skip hf (g := 85) rfl rfl rfl rfl rfl rfl fun a hf => ?_
            refine o_run hf (r_pickT hf rfl rfl) rfl fun a hf => ?_
            refine o_run hf (r_move hf rfl) rfl fun a hf => ?_
            refine o_skip hf (g := 92) rfl rfl rfl rfl rfl rfl fun a hf => ?_
            refine o_skip hf (g := 92) rfl rfl rfl rfl rfl rfl fun a hf => ?_
            refine o_skip hf (g := 92) rfl rfl rfl rfl rfl rfl fun a hf => ?_
            refine o_skip hf (g := 92) rfl rfl rfl rfl rfl rfl fun a hf => ?_
            refine o_skip hf (g := 92) rfl rfl rfl rfl rfl rfl fun a hf => ?_
            refine o_run hf (r_pickT hf rfl rfl) rfl fun a hf => ?_
            refine o_nil ?_
            refine c_then ?_
            have ho := out_inj hp
            subst ho
            exact ⟨true, rfl, hw, hf.to ⟨rfl, rfl, rfl, rfl, rfl, rfl, rfl, rfl, trivial⟩⟩
          · replace hp := cond_f hb206 hp
            refine o_want hf (g := 78) rfl rfl ?_
            refine o_run hf (r_move hf rfl) rfl fun a hf => ?_
            refine o_want hf (g := 78) rfl rfl ?_
            refine o_run hf (r_lenL (K := ekS) hf el_28 rfl (hR165.rd hw)) rfl fun a hf => ?_
            refine o_want hf (g := 78) rfl rfl ?_
            refine o_run hf (r_move hf rfl) rfl fun a hf => ?_
            refine o_want hf (g := 78) rfl rfl ?_
            refine o_run hf (r_lenL (K := ek_Node) hf el_23 rfl (hR139.rd hw)) rfl fun a hf => ?_
            refine o_want hf (g := 78) rfl rfl ?_
            refine o_run hf (r_icmp hf rfl rfl rfl) rfl fun a hf => ?_
            refine o_run hf (r_pickF hf rfl rfl) rfl fun a hf => ?_
            refine o_run hf (r_move hf rfl) rfl fun a hf => ?_
            refine g_split hf (g := 85) rfl (fun hb207 hf => ?_) (fun hb207 hf => ?_)
            · replace hp := cond_t hb207 hp
              refine o_skip hf (g := 85) rfl rfl rfl rfl rfl rfl fun a hf => ?_
              refine o_skip hf (g := 85) rfl rfl rfl rfl rfl rfl fun a hf => ?_
              refine o_skip hf (g := 85) rfl rfl rfl rfl rfl rfl fun a hf => ?_
              refine o_skip hf (g := 85) rfl rfl rfl rfl rfl rfl fun a hf => ?_
              refine o_skip hf (g := 85) rfl rfl rfl rfl rfl rfl fun a hf => ?_
              refine o_run hf (r_pickT hf rfl rfl) rfl fun a hf => ?_
              refine o_run hf (r_move hf rfl) rfl fun a hf => ?_
              refine o_skip hf (g := 92) rfl rfl rfl rfl rfl rfl fun a hf => ?_
              refine o_skip hf (g := 92) rfl rfl rfl rfl rfl rfl fun a hf => ?_
              refine o_skip hf (g := 92) rfl rfl rfl rfl rfl rfl fun a hf => ?_
              refine o_skip hf (g := 92) rfl rfl rfl rfl rfl rfl fun a hf => ?_
              refine o_skip hf (g := 92) rfl rfl rfl rfl rfl rfl fun a hf => ?_
              refine o_run hf (r_pickT hf rfl rfl) rfl fun a hf => ?_
              refine o_nil ?_
              refine c_then ?_
              have ho := out_inj hp
              subst ho
              exact ⟨true, rfl, hw, hf.to ⟨rfl, rfl, rfl, rfl, rfl, rfl, rfl, rfl, trivial⟩⟩
            · replace hp := cond_f hb207 hp
              refine o_want hf (g := 85) rfl rfl ?_
              refine o_run hf (r_move hf rfl) rfl fun a hf => ?_
              refine o_want hf (g := 85) rfl rfl ?_
              refine o_run hf (r_lenL (K := ekS) hf el_28 rfl (hR175.rd hw)) rfl fun a hf => ?_
              refine o_want hf (g := 85) rfl rfl ?_
              refine o_run hf (r_move hf rfl) rfl fun a hf => ?_
              refine o_want hf (g := 85) rfl rfl ?_
              refine o_run hf (r_lenL (K := ek_Node) hf el_23 rfl (hR139.rd hw)) rfl fun a hf => ?_
              refine o_want hf (g := 85) rfl rfl ?_
              refine o_run hf (r_icmp hf rfl rfl rfl) rfl fun a hf => ?_
              refine o_run hf (r_pickF hf rfl rfl) rfl fun a hf => ?_
              refine o_run hf (r_move hf rfl) rfl fun a hf => ?_
              refine g_split hf (g := 92) rfl (fun hb208 hf => ?_) (fun hb208 hf => ?_)
              · replace hp := cond_t hb208 hp
                refine o_skip hf (g := 92) rfl rfl rfl rfl rfl rfl fun a hf => ?_
                refine o_skip hf (g := 92) rfl rfl rfl rfl rfl rfl fun a hf => ?_
                refine o_skip hf (g := 92) rfl rfl rfl rfl rfl rfl fun a hf => ?_
                refine o_skip hf (g := 92) rfl rfl rfl rfl rfl rfl fun a hf => ?_
                refine o_skip hf (g := 92) rfl rfl rfl rfl rfl rfl fun a hf => ?_
                refine o_run hf (r_pickT hf rfl rfl) rfl fun a hf => ?_
                refine o_nil ?_
                refine c_then ?_
                have ho := out_inj hp
                subst ho
                exact ⟨true, rfl, hw, hf.to ⟨rfl, rfl, rfl, rfl, rfl, rfl, rfl, rfl, trivial⟩⟩
              · replace hp := cond_f hb208 hp
                refine o_want hf (g := 92) rfl rfl ?_
                refine o_run hf (r_move hf rfl) rfl fun a hf => ?_
                refine o_want hf (g := 92) rfl rfl ?_
                refine o_run hf (r_lenL (K := ek_Node) hf el_23 rfl (hR153.rd hw)) rfl fun a hf => ?_
                refine o_want hf (g := 92) rfl rfl ?_
                refine o_run hf (r_move hf rfl) rfl fun a hf => ?_
                refine o_want hf (g := 92) rfl rfl ?_
                refine o_run hf (r_lenL (K := ek_Node) hf el_23 rfl (hR139.rd hw)) rfl fun a hf => ?_
                refine o_want hf (g := 92) rfl rfl ?_
                refine o_run hf (r_icmp hf rfl rfl rfl) rfl fun a hf => ?_
                refine o_run hf (r_pickF hf rfl rfl) rfl fun a hf => ?_
                refine o_nil ?_
                refine c_then ?_
                have ho := out_inj hp
                subst ho
                exact ⟨((y147.t_.length : Int) != (y133.t_.length : Int)), rfl, hw, hf.to ⟨rfl, rfl, rfl, rfl, rfl, rfl, rfl, rfl, trivial⟩⟩
      · intro a w hM
        obtain ⟨y202, rfl, hw, hf⟩ := hM
        replace hp := hq204
        refine c_cond hf rfl (fun hb209 => ?_) (fun hb209 => ?_)
        · replace hp := cond_t hb209 hp
          refine wp_seq ?_
          refine wp_region_lit ?_
          refine o_run hf (r_assign hf rfl) rfl fun a hf => ?_
          refine o_nil ?_
          refine c_then ?_
          refine wp_ret ?_
          refine c_thenR ?_
          have ho := out_inj hp
          subst ho
          exact b_ret1 hf Go.Proofs.Tryd.results6 rfl ⟨_, rfl, ⟨rfl, (hw.back (IH.le_trans (IH.le_trans (IH.le_trans (IH.le_trans hle143 hle145) hle157) hle167) hle177) (List.Sublist.refl _))⟩⟩
        · replace hp := cond_f hb209 hp
          refine wp_skip ?_
          refine c_then ?_
          refine wp_seq ?_
          refine wp_seq ?_
          refine wp_region_lit ?_
          refine o_run hf (r_move hf rfl) rfl fun a hf => ?_
          refine o_run hf (r_move hf rfl) rfl fun a hf => ?_
          obtain ⟨hg210, hp⟩ := gd_some hp
          refine o_run hf (r_indexAddr (K := ek_Pair) hf el_45 rfl rfl (hR4704.rd hw) hg210) rfl fun a hf => ?_
          refine o_run hf (r_fieldAddrH hf rfl fd_58_1) rfl fun a hf => ?_
          refine o_run hf (r_loadH (K := ek_Pair) hf rfl ty_9 (hR4704.rd hw) hg210 rfl (fun cs h => Pair_f1 h)) rfl fun a hf => ?_
          refine o_run hf (r_move hf rfl) rfl fun a hf => ?_
          refine o_run hf (r_scmp hf rfl rfl rfl) rfl fun a hf => ?_
          refine o_nil ?_
          refine c_then ?_
          refine c_cond hf rfl (fun hb211 => ?_) (fun hb211 => ?_)
          · replace hp := cond_t hb211 hp
            obtain ⟨out239, hp, hq240⟩ := bind_some hp
            refine c_cut (fun a w => ∃ y238 : Bool, y238 = out239 ∧ Ok E I2_173 (F) w ∧ Fr 170 ([(6, Value.bool y238)]) a) ?_ ?_
            · refine wp_region_lit ?_
              refine o_run hf (r_move hf rfl) rfl fun a hf => ?_
              refine o_run hf (r_move hf rfl) rfl fun a hf => ?_
              obtain ⟨y241, hy242, hp⟩ := bind_some hp
              have hc244 := keep_Texts_ok hw hG hR165 hR175 hy242
              refine o_call hf cb_19 rfl rfl hc244 (fun v246 w a hK245 hf => ?_)
              obtain ⟨rfl, hw⟩ := hK245
              refine o_run hf (r_move hf rfl) rfl fun a hf => ?_
              refine g_split hf (g := 109) rfl (fun hb247 hf => ?_) (fun hb247 hf => ?_)
              · replace hp := cond_t hb247 hp
                refine o_want hf (g := 109) rfl rfl ?_
                obtain ⟨y248, hy249, hp⟩ := bind_some hp
                have hc251 := law11_wakes_ok hw hG hy249
                refine o_call hf cb_13 rfl rfl hc251 (fun v253 w a hK252 hf => ?_)
                obtain ⟨rfl, hw⟩ := hK252
                refine o_run hf (r_pickT hf rfl rfl) rfl fun a hf => ?_
                refine o_run hf (r_assign hf rfl) rfl fun a hf => ?_
                refine o_nil ?_
                refine c_then ?_
                have ho := out_inj hp
                subst ho
                exact ⟨y248, rfl, hw, hf.to ⟨rfl, trivial⟩⟩
              · replace hp := cond_f hb247 hp
                refine o_skip hf (g := 109) rfl rfl rfl rfl rfl rfl fun a hf => ?_
                refine o_run hf (r_pickF hf rfl rfl) rfl fun a hf => ?_
                refine o_run hf (r_assign hf rfl) rfl fun a hf => ?_
                refine o_nil ?_
                refine c_then ?_
                have ho := out_inj hp
                subst ho
                exact ⟨false, rfl, hw, hf.to ⟨rfl, trivial⟩⟩
            · intro a w hM
              obtain ⟨y238, rfl, hw, hf⟩ := hM
              replace hp := hq240
              refine wp_ret ?_
              refine c_thenR ?_
              have ho := out_inj hp
              subst ho
              exact b_ret1 hf Go.Proofs.Tryd.results6 rfl ⟨_, rfl, ⟨rfl, (hw.back (IH.le_trans (IH.le_trans (IH.le_trans (IH.le_trans hle143 hle145) hle157) hle167) hle177) (List.Sublist.refl _))⟩⟩
          · replace hp := cond_f hb211 hp
            refine wp_skip ?_
            refine c_then ?_
            refine wp_seq ?_
            refine wp_seq ?_
            refine wp_region_lit ?_
            refine o_run hf (r_assign hf rfl) rfl fun a hf => ?_
            refine o_nil ?_
            refine c_then ?_
            obtain ⟨out837, hp, hq838⟩ := bind_some hp
            refine c_cutX (fun a w => ∃ I836 : IH, (.inl ()) = out837 ∧ IH.le I2_173 I836 ∧ Ok E I836 (F) w ∧ Fr 170 ([(11, rvv164), (13, rvv174)]) a) ?_ ?_
            · refine wp_block ?_
              refine c_loop ?_
              refine c_fuel (law11_RootValue.l0 y133 y147 y158 y168) out837 (fun (y562 : Int) a w => ∃ I561 : IH, IH.le I2_173 I561 ∧ Ok E I561 (F) w ∧ Fr 170 ([(9, rvv138), (10, rvv152), (11, rvv164), (13, rvv174), (15, Value.int .i64 y562)]) a) (fun _ => rfl) ?_ BIG 0 _ _ ⟨I2_173, (IH.le_refl _), hw, hf.to ⟨rfl, rfl, rfl, rfl, rfl, trivial⟩⟩ hp
              intro k y562 a w hI hp ih
              obtain ⟨I561, hle839, hw, hf⟩ := hI
              rw [law11_RootValue.l0] at hp
              replace hG := hG.mono hle839
              replace hR139 := hR139.mono hle839
              replace hR153 := hR153.mono hle839
              replace hR165 := hR165.mono hle839
              replace hR175 := hR175.mono hle839
              refine wp_seq ?_
              refine wp_seq ?_
              refine wp_region_lit ?_
              refine o_run hf (r_move hf rfl) rfl fun a hf => ?_
              refine o_run hf (r_move hf rfl) rfl fun a hf => ?_
              refine o_run hf (r_lenL (K := ek_Node) hf el_23 rfl (hR139.rd hw)) rfl fun a hf => ?_
              refine o_run hf (r_icmp hf rfl rfl rfl) rfl fun a hf => ?_
              refine o_nil ?_
              refine c_then ?_
              refine c_cond hf rfl (fun hb840 => ?_) (fun hb840 => ?_)
              · replace hp := cond_t hb840 hp
                refine wp_skip ?_
                refine c_then ?_
                refine wp_seq ?_
                refine wp_block ?_
                refine wp_seq ?_
                refine wp_region_lit ?_
                refine o_run hf (r_move hf rfl) rfl fun a hf => ?_
                refine o_run hf (r_move hf rfl) rfl fun a hf => ?_
                obtain ⟨y980, hy979, hp⟩ := bind_some hp
                obtain ⟨y977, y978⟩ := y980
                have hc981 := root_Item_ok hw hG hR139 hy979
                refine o_call hf cb_16 rfl rfl hc981 (fun v985 w a hK982 hf => ?_)
                obtain ⟨I2_982, rvv983, rfl, hle986, hw, hR984⟩ := hK982
                replace hG := hG.mono hle986
                replace hR139 := hR139.mono hle986
                replace hR153 := hR153.mono hle986
                replace hR165 := hR165.mono hle986
                replace hR175 := hR175.mono hle986
                refine o_run hf (r_move hf rfl) rfl fun a hf => ?_
                refine o_run hf (r_extract hf rfl rfl) rfl fun a hf => ?_
                refine o_run hf (r_extract hf rfl rfl) rfl fun a hf => ?_
                obtain ⟨b987, w, hrun988, hw⟩ := e_alloc (P := P) (a := a) hw ty_32
                replace hw : Ok E I2_982 (.blk b987 (.cells ⟨[Value.int .i64 0, Value.string (⟨#[]⟩ : ByteArray), Value.bool false, Value.string (⟨#[]⟩ : ByteArray), Value.int .i64 0, Value.slice none 0 0]⟩ 32 (0, 0)) :: F) w := hw
                refine o_eff hf (hrun988 ..) rfl fun a hf => ?_
                obtain ⟨w, hrun990, hw⟩ := e_store (P := P) hw hf (x := .tmp 16) (y := .tmp 122) rfl rfl ty_32 0 rfl (vs := [Value.int .i64 y977.kind_, Value.string y977.path_, Value.bool y977.has_, Value.string y977.value_, Value.int .i64 y977.mask_, rvv983]) rfl rfl (ones_cons rfl (ones_cons rfl (ones_cons rfl (ones_cons rfl (ones_cons rfl (ones_cons hR984.one ones_nil)))))) (by simp [arrC_len]) (cs' := [Value.int .i64 y977.kind_, Value.string y977.path_, Value.bool y977.has_, Value.string y977.value_, Value.int .i64 y977.mask_, rvv983]) rfl
                replace hw : Ok E I2_982 (.blk b987 (.cells ⟨[Value.int .i64 y977.kind_, Value.string y977.path_, Value.bool y977.has_, Value.string y977.value_, Value.int .i64 y977.mask_, rvv983]⟩ 32 (0, 0)) :: F) w := hw
                refine o_effU (hrun990 ..) ?_
                refine o_run hf (r_assign hf rfl) rfl fun a hf => ?_
                refine o_nil ?_
                refine c_then ?_
                refine wp_seq ?_
                refine wp_region_lit ?_
                refine o_run hf (r_move hf rfl) rfl fun a hf => ?_
                refine o_run hf (r_move hf rfl) rfl fun a hf => ?_
                obtain ⟨y994, hy993, hp⟩ := bind_some hp
                obtain ⟨y991, y992⟩ := y994
                have hc995 := root_Item_ok hw hG hR153 hy993
                refine o_call hf cb_16 rfl rfl hc995 (fun v999 w a hK996 hf => ?_)
                obtain ⟨I2_996, rvv997, rfl, hle1000, hw, hR998⟩ := hK996
                replace hG := hG.mono hle1000
                replace hR139 := hR139.mono hle1000
                replace hR153 := hR153.mono hle1000
                replace hR165 := hR165.mono hle1000
                replace hR175 := hR175.mono hle1000
                replace hR984 := hR984.mono hle1000
                refine o_run hf (r_move hf rfl) rfl fun a hf => ?_
                refine o_run hf (r_extract hf rfl rfl) rfl fun a hf => ?_
                refine o_run hf (r_extract hf rfl rfl) rfl fun a hf => ?_
                obtain ⟨b1001, w, hrun1002, hw⟩ := e_alloc (P := P) (a := a) hw ty_32
                replace hw : Ok E I2_996 (.blk b1001 (.cells ⟨[Value.int .i64 0, Value.string (⟨#[]⟩ : ByteArray), Value.bool false, Value.string (⟨#[]⟩ : ByteArray), Value.int .i64 0, Value.slice none 0 0]⟩ 32 (0, 0)) :: .blk b987 (.cells ⟨[Value.int .i64 y977.kind_, Value.string y977.path_, Value.bool y977.has_, Value.string y977.value_, Value.int .i64 y977.mask_, rvv983]⟩ 32 (0, 0)) :: F) w := hw
                refine o_eff hf (hrun1002 ..) rfl fun a hf => ?_
                obtain ⟨w, hrun1004, hw⟩ := e_store (P := P) hw hf (x := .tmp 18) (y := .tmp 128) rfl rfl ty_32 0 rfl (vs := [Value.int .i64 y991.kind_, Value.string y991.path_, Value.bool y991.has_, Value.string y991.value_, Value.int .i64 y991.mask_, rvv997]) rfl rfl (ones_cons rfl (ones_cons rfl (ones_cons rfl (ones_cons rfl (ones_cons rfl (ones_cons hR998.one ones_nil)))))) (by simp [arrC_len]) (cs' := [Value.int .i64 y991.kind_, Value.string y991.path_, Value.bool y991.has_, Value.string y991.value_, Value.int .i64 y991.mask_, rvv997]) rfl
                replace hw : Ok E I2_996 (.blk b1001 (.cells ⟨[Value.int .i64 y991.kind_, Value.string y991.path_, Value.bool y991.has_, Value.string y991.value_, Value.int .i64 y991.mask_, rvv997]⟩ 32 (0, 0)) :: .blk b987 (.cells ⟨[Value.int .i64 y977.kind_, Value.string y977.path_, Value.bool y977.has_, Value.string y977.value_, Value.int .i64 y977.mask_, rvv983]⟩ 32 (0, 0)) :: F) w := hw
                refine o_effU (hrun1004 ..) ?_
                refine o_run hf (r_assign hf rfl) rfl fun a hf => ?_
                refine o_nil ?_
                refine c_then ?_
                refine wp_seq ?_
                obtain ⟨out1060, hp, hq1061⟩ := bind_some hp
                refine c_cut (fun a w => ∃ y1059 : Bool, y1059 = out1060 ∧ Ok E I2_996 (.blk b1001 (.cells ⟨[Value.int .i64 y991.kind_, Value.string y991.path_, Value.bool y991.has_, Value.string y991.value_, Value.int .i64 y991.mask_, rvv997]⟩ 32 (0, 0)) :: .blk b987 (.cells ⟨[Value.int .i64 y977.kind_, Value.string y977.path_, Value.bool y977.has_, Value.string y977.value_, Value.int .i64 y977.mask_, rvv983]⟩ 32 (0, 0)) :: F) w ∧ Fr 170 ([(9, rvv138), (10, rvv152), (11, rvv164), (13, rvv174), (15, Value.int .i64 y562), (16, Value.pointer (some ⟨b987, 0, none⟩)), (18, Value.pointer (some ⟨b1001, 0, none⟩)), (143, Value.bool y1059)]) a) ?_ ?_
                · refine c_drawn mix [] (.rd 0 (.rd 1 (.ef 2 (.rd 3 (.rd 4 (.rd 5 (.rd 6 (.rd 7 (.rd 8 (.rd 9 (.rd 10 (.rd 11 (.rd 12 (.rd 13 .done)))))))))))))) (by kernel_rfl) hw (fun w => Ok E I2_996 (.blk b1001 (.cells ⟨[Value.int .i64 y991.kind_, Value.string y991.path_, Value.bool y991.has_, Value.string y991.value_, Value.int .i64 y991.mask_, rvv997]⟩ 32 (0, 0)) :: .blk b987 (.cells ⟨[Value.int .i64 y977.kind_, Value.string y977.path_, Value.bool y977.has_, Value.string y977.value_, Value.int .i64 y977.mask_, rvv983]⟩ 32 (0, 0)) :: F) w) (fun w hw => ⟨hw.sub (List.Sublist.cons_cons _ (List.Sublist.cons_cons _ (List.Sublist.refl _))), ?_⟩)
                  refine t_rd rfl hf (fun w hw => r_loadA hw hf rfl ty_32 1 rfl (vs := [Value.int .i64 y977.kind_, Value.string y977.path_, Value.bool y977.has_, Value.string y977.value_, Value.int .i64 y977.mask_, rvv983]) rfl rfl) rfl fun a hf => ?_
                  refine t_rd rfl hf (fun w hw => r_loadA hw hf rfl ty_32 0 rfl (vs := [Value.int .i64 y991.kind_, Value.string y991.path_, Value.bool y991.has_, Value.string y991.value_, Value.int .i64 y991.mask_, rvv997]) rfl rfl) rfl fun a hf => ?_
                  refine t_ef rfl ?_
                  obtain ⟨y1063, hy1064, hp⟩ := bind_some hp
                  have hc1066 := keep_Item_ok hw hG hR984 hR998 hy1064
                  refine t_call hf cb_20 rfl rfl hc1066 (fun v1068 w a hK1067 hf => ?_)
                  obtain ⟨rfl, hw⟩ := hK1067
                  refine ⟨.inr (hw.back (IH.le_refl _) (List.Sublist.cons_cons _ (List.Sublist.cons_cons _ (List.Sublist.refl _)))), ?_⟩
                  refine t_rd rfl hf (fun w hw => r_move hf rfl) rfl fun a hf => ?_
                  refine g_split hf (g := 133) rfl (fun hb1069 hf => ?_) (fun hb1069 hf => ?_)
                  · replace hp := cond_t hb1069 hp
                    refine t_rdG rfl rfl hf rfl (fun w hw => r_move hf rfl) rfl fun a hf => ?_
                    refine t_rdG rfl rfl hf rfl (fun w hw => r_move hf rfl) rfl fun a hf => ?_
                    obtain ⟨hg1070, hp⟩ := gd_some hp
                    refine t_rdG rfl rfl hf rfl (fun w hw => r_indexAddr (K := ekS) hf el_28 rfl rfl (hR165.rd hw) hg1070) rfl fun a hf => ?_
                    refine t_rdG rfl rfl hf rfl (fun w hw => r_loadH (K := ekS) hf rfl ty_9 (hR165.rd hw) hg1070 rfl (fun cs h => ekS_f0 h)) rfl fun a hf => ?_
                    refine t_rdG rfl rfl hf rfl (fun w hw => r_move hf rfl) rfl fun a hf => ?_
                    refine t_rdG rfl rfl hf rfl (fun w hw => r_move hf rfl) rfl fun a hf => ?_
                    obtain ⟨hg1071, hp⟩ := gd_some hp
                    refine t_rdG rfl rfl hf rfl (fun w hw => r_indexAddr (K := ekS) hf el_28 rfl rfl (hR175.rd hw) hg1071) rfl fun a hf => ?_
                    refine t_rdG rfl rfl hf rfl (fun w hw => r_loadH (K := ekS) hf rfl ty_9 (hR175.rd hw) hg1071 rfl (fun cs h => ekS_f0 h)) rfl fun a hf => ?_
                    refine t_rdG rfl rfl hf rfl (fun w hw => r_scmp hf rfl rfl rfl) rfl fun a hf => ?_
                    refine t_rd rfl hf (fun w hw => r_pickT hf rfl rfl) rfl fun a hf => ?_
                    refine t_done ?_
                    refine c_then ?_
                    have ho := out_inj hp
                    subst ho
                    exact ⟨(!(seq_ (gt y158 y562) (gt y168 y562))), rfl, hw, hf.to ⟨rfl, rfl, rfl, rfl, rfl, rfl, rfl, rfl, trivial⟩⟩
                  · replace hp := cond_f hb1069 hp
                    refine t_rdS rfl rfl hf rfl rfl rfl fun a hf => ?_
                    refine t_rdS rfl rfl hf rfl rfl rfl fun a hf => ?_
                    refine t_rdS rfl rfl hf rfl rfl rfl fun a hf => ?_
                    refine t_rdS rfl rfl hf rfl rfl rfl fun a hf => ?_
                    refine t_rdS rfl rfl hf rfl rfl rfl fun a hf => ?_
                    refine t_rdS rfl rfl hf rfl rfl rfl fun a hf => ?_
                    refine t_rdS rfl rfl hf rfl rfl rfl fun a hf => ?_
                    refine t_rdS rfl rfl hf rfl rfl rfl fun a hf => ?_
                    refine t_rdS rfl rfl hf rfl rfl rfl fun a hf => ?_
                    refine t_rd rfl hf (fun w hw => r_pickF hf rfl rfl) rfl fun a hf => ?_
                    refine t_done ?_
                    refine c_then ?_
                    have ho := out_inj hp
                    subst ho
                    exact ⟨false, rfl, hw, hf.to ⟨rfl, rfl, rfl, rfl, rfl, rfl, rfl, rfl, trivial⟩⟩
                · intro a w hM
                  obtain ⟨y1059, rfl, hw, hf⟩ := hM
                  replace hp := hq1061
                  refine c_cond hf rfl (fun hb1072 => ?_) (fun hb1072 => ?_)
                  · replace hp := cond_t hb1072 hp
                    refine wp_seq ?_
                    refine wp_region_lit ?_
                    refine o_run hf (r_assign hf rfl) rfl fun a hf => ?_
                    refine o_nil ?_
                    refine c_then ?_
                    refine wp_ret ?_
                    refine c_thenR ?_
                    refine c_blockR ?_
                    refine c_thenR ?_
                    refine c_thenR ?_
                    refine c_blockR ?_
                    refine c_thenR ?_
                    have ho := out_inj hp
                    subst ho
                    replace hp := hq838
                    refine c_thenR ?_
                    replace hw : Ok E I2_996 (F) w := hw.sub (List.Sublist.cons _ (List.Sublist.cons _ (List.Sublist.refl _)))
                    have ho := out_inj hp
                    subst ho
                    exact b_ret1 hf Go.Proofs.Tryd.results6 rfl ⟨_, rfl, ⟨rfl, (hw.back (IH.le_trans (IH.le_trans (IH.le_trans (IH.le_trans (IH.le_trans (IH.le_trans (IH.le_trans hle143 hle145) hle157) hle167) hle177) hle839) hle986) hle1000) (List.Sublist.refl _))⟩⟩
                  · replace hp := cond_f hb1072 hp
                    refine wp_skip ?_
                    refine c_then ?_
                    obtain ⟨out1094, hp, hq1095⟩ := bind_some hp
                    refine c_cut (fun a w => ∃ y1093 : Bool, y1093 = out1094 ∧ Ok E I2_996 (.blk b1001 (.cells ⟨[Value.int .i64 y991.kind_, Value.string y991.path_, Value.bool y991.has_, Value.string y991.value_, Value.int .i64 y991.mask_, rvv997]⟩ 32 (0, 0)) :: .blk b987 (.cells ⟨[Value.int .i64 y977.kind_, Value.string y977.path_, Value.bool y977.has_, Value.string y977.value_, Value.int .i64 y977.mask_, rvv983]⟩ 32 (0, 0)) :: F) w ∧ Fr 170 ([(9, rvv138), (10, rvv152), (11, rvv164), (13, rvv174), (15, Value.int .i64 y562), (158, Value.bool y1093)]) a) ?_ ?_
                    · refine c_drawn mix [] (.rd 0 (.rd 1 (.ef 2 (.rd 3 (.rd 4 (.rd 5 (.rd 6 (.rd 7 (.rd 8 (.rd 9 (.rd 10 (.rd 11 (.rd 12 (.rd 13 (.rd 14 .done))))))))))))))) (by kernel_rfl) hw (fun w => Ok E I2_996 (.blk b1001 (.cells ⟨[Value.int .i64 y991.kind_, Value.string y991.path_, Value.bool y991.has_, Value.string y991.value_, Value.int .i64 y991.mask_, rvv997]⟩ 32 (0, 0)) :: .blk b987 (.cells ⟨[Value.int .i64 y977.kind_, Value.string y977.path_, Value.bool y977.has_, Value.string y977.value_, Value.int .i64 y977.mask_, rvv983]⟩ 32 (0, 0)) :: F) w) (fun w hw => ⟨hw.sub (List.Sublist.cons_cons _ (List.Sublist.cons_cons _ (List.Sublist.refl _))), ?_⟩)
                      refine t_rd rfl hf (fun w hw => r_loadA hw hf rfl ty_32 1 rfl (vs := [Value.int .i64 y977.kind_, Value.string y977.path_, Value.bool y977.has_, Value.string y977.value_, Value.int .i64 y977.mask_, rvv983]) rfl rfl) rfl fun a hf => ?_
                      refine t_rd rfl hf (fun w hw => r_loadA hw hf rfl ty_32 0 rfl (vs := [Value.int .i64 y991.kind_, Value.string y991.path_, Value.bool y991.has_, Value.string y991.value_, Value.int .i64 y991.mask_, rvv997]) rfl rfl) rfl fun a hf => ?_
                      refine t_ef rfl ?_
                      obtain ⟨y1097, hy1098, hp⟩ := bind_some hp
                      have hc1100 := keep_Item_ok hw hG hR984 hR998 hy1098
                      refine t_call hf cb_20 rfl rfl hc1100 (fun v1102 w a hK1101 hf => ?_)
                      obtain ⟨rfl, hw⟩ := hK1101
                      refine ⟨.inr (hw.back (IH.le_refl _) (List.Sublist.cons_cons _ (List.Sublist.cons_cons _ (List.Sublist.refl _)))), ?_⟩
                      refine t_rd rfl hf (fun w hw => r_not hf rfl) rfl fun a hf => ?_
                      refine t_rd rfl hf (fun w hw => r_move hf rfl) rfl fun a hf => ?_
                      refine g_split hf (g := 148) rfl (fun hb1103 hf => ?_) (fun hb1103 hf => ?_)
                      · replace hp := cond_t hb1103 hp
                        refine t_rdG rfl rfl hf rfl (fun w hw => r_move hf rfl) rfl fun a hf => ?_
                        refine t_rdG rfl rfl hf rfl (fun w hw => r_move hf rfl) rfl fun a hf => ?_
                        obtain ⟨hg1104, hp⟩ := gd_some hp
                        refine t_rdG rfl rfl hf rfl (fun w hw => r_indexAddr (K := ekS) hf el_28 rfl rfl (hR165.rd hw) hg1104) rfl fun a hf => ?_
                        refine t_rdG rfl rfl hf rfl (fun w hw => r_loadH (K := ekS) hf rfl ty_9 (hR165.rd hw) hg1104 rfl (fun cs h => ekS_f0 h)) rfl fun a hf => ?_
                        refine t_rdG rfl rfl hf rfl (fun w hw => r_move hf rfl) rfl fun a hf => ?_
                        refine t_rdG rfl rfl hf rfl (fun w hw => r_move hf rfl) rfl fun a hf => ?_
                        obtain ⟨hg1105, hp⟩ := gd_some hp
                        refine t_rdG rfl rfl hf rfl (fun w hw => r_indexAddr (K := ekS) hf el_28 rfl rfl (hR175.rd hw) hg1105) rfl fun a hf => ?_
                        refine t_rdG rfl rfl hf rfl (fun w hw => r_loadH (K := ekS) hf rfl ty_9 (hR175.rd hw) hg1105 rfl (fun cs h => ekS_f0 h)) rfl fun a hf => ?_
                        refine t_rdG rfl rfl hf rfl (fun w hw => r_scmp hf rfl rfl rfl) rfl fun a hf => ?_
                        refine t_rd rfl hf (fun w hw => r_pickT hf rfl rfl) rfl fun a hf => ?_
                        refine t_done ?_
                        refine c_then ?_
                        have ho := out_inj hp
                        subst ho
                        exact ⟨(seq_ (gt y158 y562) (gt y168 y562)), rfl, hw, hf.to ⟨rfl, rfl, rfl, rfl, rfl, rfl, trivial⟩⟩
                      · replace hp := cond_f hb1103 hp
                        refine t_rdS rfl rfl hf rfl rfl rfl fun a hf => ?_
                        refine t_rdS rfl rfl hf rfl rfl rfl fun a hf => ?_
                        refine t_rdS rfl rfl hf rfl rfl rfl fun a hf => ?_
                        refine t_rdS rfl rfl hf rfl rfl rfl fun a hf => ?_
                        refine t_rdS rfl rfl hf rfl rfl rfl fun a hf => ?_
                        refine t_rdS rfl rfl hf rfl rfl rfl fun a hf => ?_
                        refine t_rdS rfl rfl hf rfl rfl rfl fun a hf => ?_
                        refine t_rdS rfl rfl hf rfl rfl rfl fun a hf => ?_
                        refine t_rdS rfl rfl hf rfl rfl rfl fun a hf => ?_
                        refine t_rd rfl hf (fun w hw => r_pickF hf rfl rfl) rfl fun a hf => ?_
                        refine t_done ?_
                        refine c_then ?_
                        have ho := out_inj hp
                        subst ho
                        exact ⟨false, rfl, hw, hf.to ⟨rfl, rfl, rfl, rfl, rfl, rfl, trivial⟩⟩
                    · intro a w hM
                      obtain ⟨y1093, rfl, hw, hf⟩ := hM
                      replace hp := hq1095
                      refine c_cond hf rfl (fun hb1106 => ?_) (fun hb1106 => ?_)
                      · replace hp := cond_t hb1106 hp
                        refine wp_seq ?_
                        refine wp_region_lit ?_
                        obtain ⟨y1107, hy1108, hp⟩ := bind_some hp
                        have hc1110 := law11_wakes_ok hw hG hy1108
                        refine o_call hf cb_13 rfl rfl hc1110 (fun v1112 w a hK1111 hf => ?_)
                        obtain ⟨rfl, hw⟩ := hK1111
                        refine o_run hf (r_assign hf rfl) rfl fun a hf => ?_
                        refine o_nil ?_
                        refine c_then ?_
                        refine wp_ret ?_
                        refine c_blockR ?_
                        refine c_thenR ?_
                        refine c_thenR ?_
                        refine c_blockR ?_
                        refine c_thenR ?_
                        have ho := out_inj hp
                        subst ho
                        replace hp := hq838
                        refine c_thenR ?_
                        replace hw : Ok E I2_996 (F) w := hw.sub (List.Sublist.cons _ (List.Sublist.cons _ (List.Sublist.refl _)))
                        have ho := out_inj hp
                        subst ho
                        exact b_ret1 hf Go.Proofs.Tryd.results6 rfl ⟨_, rfl, ⟨rfl, (hw.back (IH.le_trans (IH.le_trans (IH.le_trans (IH.le_trans (IH.le_trans (IH.le_trans (IH.le_trans hle143 hle145) hle157) hle167) hle177) hle839) hle986) hle1000) (List.Sublist.refl _))⟩⟩
                      · replace hp := cond_f hb1106 hp
                        refine wp_skip ?_
                        refine c_blockN ?_
                        refine c_then ?_
                        refine wp_region_lit ?_
                        refine o_run hf (r_move hf rfl) rfl fun a hf => ?_
                        refine o_run hf (r_add hf rfl rfl) rfl fun a hf => ?_
                        refine o_run hf (r_assign hf rfl) rfl fun a hf => ?_
                        refine o_nil ?_
                        refine c_then ?_
                        replace hw : Ok E I2_996 (F) w := hw.sub (List.Sublist.cons _ (List.Sublist.cons _ (List.Sublist.refl _)))
                        exact ih (w64 (y562 + 1)) _ _ ⟨I2_996, (IH.le_trans (IH.le_trans hle839 hle986) hle1000), hw, hf.to ⟨rfl, rfl, rfl, rfl, rfl, trivial⟩⟩ hp
              · replace hp := cond_f hb840 hp
                refine wp_exit ?_
                refine c_thenE ?_
                refine c_thenE ?_
                refine c_exit ?_
                refine c_then ?_
                have ho := out_inj hp
                subst ho
                exact ⟨I561, rfl, hle839, hw, hf.to ⟨rfl, rfl, trivial⟩⟩
            · intro a w hM
              obtain ⟨I836, rfl, hle1113, hw, hf⟩ := hM
              replace hp := hq838
              replace hG := hG.mono hle1113
              replace hR165 := hR165.mono hle1113
              replace hR175 := hR175.mono hle1113
              refine c_then ?_
              obtain ⟨out1135, hp, hq1136⟩ := bind_some hp
              refine c_cut (fun a w => ∃ y1134 : Bool, y1134 = out1135 ∧ Ok E I836 (F) w ∧ Fr 170 ([(6, Value.bool y1134)]) a) ?_ ?_
              · refine c_drawn mix [] (.rd 0 (.rd 1 (.rd 2 (.rd 3 (.rd 4 (.rd 5 (.rd 6 (.rd 7 (.ef 8 (.rd 9 (.rd 10 .done))))))))))) (by kernel_rfl) hw (fun w => Ok E I836 (F) w) (fun w hw => ⟨hw.sub (List.Sublist.refl _), ?_⟩)
                refine t_rd rfl hf (fun w hw => r_move hf rfl) rfl fun a hf => ?_
                obtain ⟨hg1138, hp⟩ := gd_some hp
                refine t_rd rfl hf (fun w hw => r_indexAddr (K := ekS) hf el_28 rfl rfl (hR165.rd hw) hg1138) rfl fun a hf => ?_
                refine t_rd rfl hf (fun w hw => r_loadH (K := ekS) hf rfl ty_9 (hR165.rd hw) hg1138 rfl (fun cs h => ekS_f0 h)) rfl fun a hf => ?_
                refine t_rd rfl hf (fun w hw => r_move hf rfl) rfl fun a hf => ?_
                obtain ⟨hg1139, hp⟩ := gd_some hp
                refine t_rd rfl hf (fun w hw => r_indexAddr (K := ekS) hf el_28 rfl rfl (hR175.rd hw) hg1139) rfl fun a hf => ?_
                refine t_rd rfl hf (fun w hw => r_loadH (K := ekS) hf rfl ty_9 (hR175.rd hw) hg1139 rfl (fun cs h => ekS_f0 h)) rfl fun a hf => ?_
                refine t_rd rfl hf (fun w hw => r_scmp hf rfl rfl rfl) rfl fun a hf => ?_
                refine t_rd rfl hf (fun w hw => r_move hf rfl) rfl fun a hf => ?_
                refine g_split hf (g := 167) rfl (fun hb1140 hf => ?_) (fun hb1140 hf => ?_)
                · replace hp := cond_t hb1140 hp
                  refine t_ef rfl ?_
                  obtain ⟨y1141, hy1142, hp⟩ := bind_some hp
                  have hc1144 := law11_wakes_ok hw hG hy1142
                  refine t_callG rfl hf rfl cb_13 rfl rfl hc1144 (fun v1146 w a hK1145 hf => ?_)
                  obtain ⟨rfl, hw⟩ := hK1145
                  refine ⟨.inr (hw.back (IH.le_refl _) (List.Sublist.refl _)), ?_⟩
                  refine t_rd rfl hf (fun w hw => r_pickT hf rfl rfl) rfl fun a hf => ?_
                  refine t_rd rfl hf (fun w hw => r_assign hf rfl) rfl fun a hf => ?_
                  refine t_done ?_
                  refine c_then ?_
                  have ho := out_inj hp
                  subst ho
                  exact ⟨y1141, rfl, hw, hf.to ⟨rfl, trivial⟩⟩
                · replace hp := cond_f hb1140 hp
                  refine t_ef rfl ?_
                  refine t_skipE rfl hf rfl rfl rfl fun a hf => ⟨.inr (hw.back (IH.le_refl _) (List.Sublist.refl _)), ?_⟩
                  refine t_rd rfl hf (fun w hw => r_pickF hf rfl rfl) rfl fun a hf => ?_
                  refine t_rd rfl hf (fun w hw => r_assign hf rfl) rfl fun a hf => ?_
                  refine t_done ?_
                  refine c_then ?_
                  have ho := out_inj hp
                  subst ho
                  exact ⟨false, rfl, hw, hf.to ⟨rfl, trivial⟩⟩
              · intro a w hM
                obtain ⟨y1134, rfl, hw, hf⟩ := hM
                replace hp := hq1136
                refine wp_ret ?_
                have ho := out_inj hp
                subst ho
                exact b_ret1 hf Go.Proofs.Tryd.results6 rfl ⟨_, rfl, ⟨rfl, (hw.back (IH.le_trans (IH.le_trans (IH.le_trans (IH.le_trans (IH.le_trans hle143 hle145) hle157) hle167) hle177) hle1113) (List.Sublist.refl _))⟩⟩
end Go.Lf
