/- The Go functions compute the plain Lean functions (printed by our lift.py). -/
import Derived.Test.YtckhmgglgbnaaaaDoorZD
import Derived.Test.YtckhmgglgbnaaaaDoorZF
import Derived.Test.YtckhmgglgbnaaaaDoorJ
import Derived.Test.YtckhmgglgbnaaaaDoorZK1
import Derived.Test.YtckhmgglgbnaaaaDoorZK8
import Derived.Test.YtckhmgglgbnaaaaDoorZK9
import Derived.Test.YtckhmgglgbnaaaaDoorZK10
set_option linter.unusedVariables false
set_option linter.unusedSimpArgs false
namespace Go.Lf
open Go
set_option maxHeartbeats 1000000 in
set_option maxRecDepth 20000 in
theorem law11_RootLeaf_ok {E : World} {I : IH} {F : List Atom} {w : World} {a0 : ByteArray} {a1 : ByteArray} {res0 : Bool} (hw : Ok E I (F) w) (hG : Gl I) (hp : law11_RootLeaf.f a0 a1 = some res0) :
    Calls P 7 ⟨[Value.string a0, Value.string a1]⟩ w fun e w' => ∃ v, e = .returned v ∧ v = Value.bool res0 ∧ Ok E I (F) w' := by
  refine c_enter Go.Proofs.Tryd.func7 rfl Go.Proofs.Tryd.ntmps7 rfl fun a hf => ?_
  replace hf : Fr 59 [(0, Value.string a0), (1, Value.string a1)] a := hf
  unfold law11_RootLeaf.f at hp
  refine wp_seq ?_
  refine wp_region_lit ?_
  refine o_run hf (r_assign hf rfl) rfl fun a hf => ?_
  refine o_nil ?_
  refine c_then ?_
  refine wp_seq ?_
  obtain ⟨out22, hp, hq23⟩ := bind_some hp
  refine c_cut (fun a w => ∃ y21 : Bool, y21 = out22 ∧ Ok E I (F) w ∧ Fr 59 ([(0, Value.string a0), (1, Value.string a1), (20, Value.bool y21)]) a) ?_ ?_
  · refine wp_region_lit ?_
    refine o_run hf (r_move hf rfl) rfl fun a hf => ?_
    refine o_run hf (r_lenS hf und_9 rfl) rfl fun a hf => ?_
    refine o_run hf (r_icmp hf rfl rfl rfl) rfl fun a hf => ?_
    refine o_run hf (r_move hf rfl) rfl fun a hf => ?_
    refine g_split hf (g := 11) rfl (fun hb24 hf => ?_) (fun hb24 hf => ?_)
    · replace hp := cond_t hb24 hp
      refine o_skip hf (g := 11) rfl rfl rfl rfl rfl rfl fun a hf => ?_
      refine o_skip hf (g := 11) rfl rfl rfl rfl rfl rfl fun a hf => ?_
      refine o_skip hf (g := 11) rfl rfl rfl rfl rfl rfl fun a hf => ?_
      refine o_run hf (r_pickT hf rfl rfl) rfl fun a hf => ?_
      refine o_run hf (r_move hf rfl) rfl fun a hf => ?_
      refine o_skip hf (g := 16) rfl rfl rfl rfl rfl rfl fun a hf => ?_
      refine o_skip hf (g := 16) rfl rfl rfl rfl rfl rfl fun a hf => ?_
      refine o_skip hf (g := 16) rfl rfl rfl rfl rfl rfl fun a hf => ?_
      refine o_run hf (r_pickT hf rfl rfl) rfl fun a hf => ?_
      refine o_nil ?_
      refine c_then ?_
      have ho := out_inj hp
      subst ho
      exact ⟨true, rfl, hw, hf.to ⟨rfl, rfl, rfl, trivial⟩⟩
    · replace hp := cond_f hb24 hp
      refine o_want hf (g := 11) rfl rfl ?_
      refine o_run hf (r_move hf rfl) rfl fun a hf => ?_
      refine o_want hf (g := 11) rfl rfl ?_
      refine o_run hf (r_lenS hf und_9 rfl) rfl fun a hf => ?_
      refine o_want hf (g := 11) rfl rfl ?_
      refine o_run hf (r_icmp hf rfl rfl rfl) rfl fun a hf => ?_
      refine o_run hf (r_pickF hf rfl rfl) rfl fun a hf => ?_
      refine o_run hf (r_move hf rfl) rfl fun a hf => ?_
      refine g_split hf (g := 16) rfl (fun hb25 hf => ?_) (fun hb25 hf => ?_)
      · replace hp := cond_t hb25 hp
        refine o_skip hf (g := 16) rfl rfl rfl rfl rfl rfl fun a hf => ?_
        refine o_skip hf (g := 16) rfl rfl rfl rfl rfl rfl fun a hf => ?_
        refine o_skip hf (g := 16) rfl rfl rfl rfl rfl rfl fun a hf => ?_
        refine o_run hf (r_pickT hf rfl rfl) rfl fun a hf => ?_
        refine o_nil ?_
        refine c_then ?_
        have ho := out_inj hp
        subst ho
        exact ⟨true, rfl, hw, hf.to ⟨rfl, rfl, rfl, trivial⟩⟩
      · replace hp := cond_f hb25 hp
        refine o_want hf (g := 16) rfl rfl ?_
        refine o_run hf (r_move hf rfl) rfl fun a hf => ?_
        refine o_want hf (g := 16) rfl rfl ?_
        refine o_run hf (r_lenS hf und_9 rfl) rfl fun a hf => ?_
        refine o_want hf (g := 16) rfl rfl ?_
        refine o_run hf (r_icmp hf rfl rfl rfl) rfl fun a hf => ?_
        refine o_run hf (r_pickF hf rfl rfl) rfl fun a hf => ?_
        refine o_nil ?_
        refine c_then ?_
        have ho := out_inj hp
        subst ho
        exact ⟨(decide ((a1.size : Int) > 16)), rfl, hw, hf.to ⟨rfl, rfl, rfl, trivial⟩⟩
  · intro a w hM
    obtain ⟨y21, rfl, hw, hf⟩ := hM
    replace hp := hq23
    refine c_cond hf rfl (fun hb26 => ?_) (fun hb26 => ?_)
    · replace hp := cond_t hb26 hp
      refine wp_seq ?_
      refine wp_region_lit ?_
      obtain ⟨y27, hy28, hp⟩ := bind_some hp
      have hc30 := law11_wakes_ok hw hG hy28
      refine o_call hf cb_13 rfl rfl hc30 (fun v32 w a hK31 hf => ?_)
      obtain ⟨rfl, hw⟩ := hK31
      refine o_run hf (r_assign hf rfl) rfl fun a hf => ?_
      refine o_nil ?_
      refine c_then ?_
      refine wp_ret ?_
      refine c_thenR ?_
      have ho := out_inj hp
      subst ho
      exact b_ret1 hf Go.Proofs.Tryd.results7 rfl ⟨_, rfl, ⟨rfl, hw⟩⟩
    · replace hp := cond_f hb26 hp
      refine wp_skip ?_
      refine c_then ?_
      refine wp_seq ?_
      refine wp_region_lit ?_
      refine o_run hf (r_move hf rfl) rfl fun a hf => ?_
      refine o_run hf (r_move hf rfl) rfl fun a hf => ?_
      refine o_run hf (r_build hf bd_58 (vs := [Value.string a0, Value.string a1]) rfl ⟨rfl, rfl, trivial⟩ (by decide) (out := [Value.string a0, Value.string a1]) rfl) rfl fun a hf => ?_
      obtain ⟨w, v33, hrun34, hw, hRR35⟩ := e_buildSlice (P := P) (K := ek_Pair) (m := 1) hw hf (parts := [(0, .tmp 25)]) el_45 ty_58 rfl rfl rfl (ccs := [[Value.string a0, Value.string a1]]) rfl (xs := [(⟨a0, a1⟩ : Pair)]) ⟨rfl, trivial⟩ rfl
      obtain ⟨cs36, hcs⟩ : ∃ cs, cs = ([[Value.string a0, Value.string a1]] : List (List Value)).flatten := ⟨_, rfl⟩
      rw [← hcs] at hw hRR35; clear hcs
      refine o_eff hf (hrun34 ..) rfl fun a hf => ?_
      have hw : Ok E I (.row v33 58 2 1 cs36 :: F) w := hw.front (i := 0) rfl
      obtain ⟨I38, hle39, hw, hR40⟩ := row_freeze (K := ek_Pair) hw hRR35
      replace hG := hG.mono hle39
      obtain ⟨y41, hy42, hp⟩ := bind_some hp
      have hc44 := ref10_Build_ok hw hG hR40 hy42
      refine o_call hf cb_26 rfl rfl hc44 (fun v50 w a hK45 hf => ?_)
      obtain ⟨I2_45, rvv46, rvv48, rfl, hle51, hw, hR47, hR49⟩ := hK45
      replace hG := hG.mono hle51
      replace hR40 := hR40.mono hle51
      refine o_run hf (r_field hf rfl fd_48_0 ty_23 rfl) rfl fun a hf => ?_
      obtain ⟨y55, hy54, hp⟩ := bind_some hp
      obtain ⟨y52, y53⟩ := y55
      have hc56 := root_Of_ok hw hG hR47 hy54
      refine o_call hf cb_14 rfl rfl hc56 (fun v58 w a hK57 hf => ?_)
      obtain ⟨rfl, hw⟩ := hK57
      refine o_run hf (r_move hf rfl) rfl fun a hf => ?_
      refine o_run hf (r_extract hf rfl rfl) rfl fun a hf => ?_
      refine o_run hf (r_extract hf rfl rfl) rfl fun a hf => ?_
      refine o_run hf (r_assign hf rfl) rfl fun a hf => ?_
      refine o_run hf (r_assign hf rfl) rfl fun a hf => ?_
      refine o_nil ?_
      refine c_then ?_
      refine wp_seq ?_
      refine wp_region_lit ?_
      refine o_run hf (r_move hf rfl) rfl fun a hf => ?_
      refine o_run hf (r_lenS hf und_9 rfl) rfl fun a hf => ?_
      refine o_run hf (r_mul hf rfl rfl) rfl fun a hf => ?_
      refine o_run hf (r_convI hf und_3 und_5 rfl) rfl fun a hf => ?_
      obtain ⟨w, v59, hrun60, hw, hRR61⟩ := e_buildSlice (P := P) (K := (ekI .u8)) (m := 1) hw hf (parts := [(0, .tmp 35)]) el_60 ty_5 rfl rfl rfl (ccs := [[Value.int .u8 (wu8 (w64 (2 * (a0.size : Int))))]]) rfl (xs := [wu8 (w64 (2 * (a0.size : Int)))]) ⟨rfl, trivial⟩ rfl
      obtain ⟨cs62, hcs⟩ : ∃ cs, cs = ([[Value.int .u8 (wu8 (w64 (2 * (a0.size : Int))))]] : List (List Value)).flatten := ⟨_, rfl⟩
      rw [← hcs] at hw hRR61; clear hcs
      refine o_eff hf (hrun60 ..) rfl fun a hf => ?_
      refine o_run hf (r_convB hf und_60 und_5 und_9 rfl (row_rd (K := (ekI .u8)) hw (i := 0) rfl hRR61)) rfl fun a hf => ?_
      obtain ⟨hg64, hp⟩ := gd_some hp
      refine o_run hf (r_sadd hf rfl rfl hg64) rfl fun a hf => ?_
      refine o_run hf (r_move hf rfl) rfl fun a hf => ?_
      obtain ⟨hg65, hp⟩ := gd_some hp
      refine o_run hf (r_sadd hf rfl rfl hg65) rfl fun a hf => ?_
      refine o_run hf (r_move hf rfl) rfl fun a hf => ?_
      refine o_run hf (r_lenS hf und_9 rfl) rfl fun a hf => ?_
      refine o_run hf (r_convI hf und_3 und_5 rfl) rfl fun a hf => ?_
      obtain ⟨w, v66, hrun67, hw, hRR68⟩ := e_buildSlice (P := P) (K := (ekI .u8)) (m := 1) hw hf (parts := [(0, .tmp 43)]) el_60 ty_5 rfl rfl rfl (ccs := [[Value.int .u8 (wu8 (a1.size : Int))]]) rfl (xs := [wu8 (a1.size : Int)]) ⟨rfl, trivial⟩ rfl
      obtain ⟨cs69, hcs⟩ : ∃ cs, cs = ([[Value.int .u8 (wu8 (a1.size : Int))]] : List (List Value)).flatten := ⟨_, rfl⟩
      rw [← hcs] at hw hRR68; clear hcs
      refine o_eff hf (hrun67 ..) rfl fun a hf => ?_
      refine o_run hf (r_convB hf und_60 und_5 und_9 rfl (row_rd (K := (ekI .u8)) hw (i := 0) rfl hRR68)) rfl fun a hf => ?_
      obtain ⟨hg71, hp⟩ := gd_some hp
      refine o_run hf (r_sadd hf rfl rfl hg71) rfl fun a hf => ?_
      refine o_run hf (r_move hf rfl) rfl fun a hf => ?_
      obtain ⟨hg72, hp⟩ := gd_some hp
      refine o_run hf (r_sadd hf rfl rfl hg72) rfl fun a hf => ?_
      refine o_run hf (r_assign hf rfl) rfl fun a hf => ?_
      refine o_nil ?_
      refine c_then ?_
      obtain ⟨out102, hp, hq103⟩ := bind_some hp
      refine c_cut (fun a w => ∃ y101 : Bool, y101 = out102 ∧ Ok E I2_45 (.row v66 5 1 1 cs69 :: .row v59 5 1 1 cs62 :: F) w ∧ Fr 59 ([(4, Value.bool y101)]) a) ?_ ?_
      · refine wp_region_lit ?_
        refine o_run hf (r_move hf rfl) rfl fun a hf => ?_
        refine o_run hf (r_move hf rfl) rfl fun a hf => ?_
        refine g_split hf (g := 50) rfl (fun hb104 hf => ?_) (fun hb104 hf => ?_)
        · replace hp := cond_t hb104 hp
          refine o_want hf (g := 50) rfl rfl ?_
          refine o_run hf (r_move hf rfl) rfl fun a hf => ?_
          refine o_want hf (g := 50) rfl rfl ?_
          refine o_run hf (r_move hf rfl) rfl fun a hf => ?_
          refine o_want hf (g := 50) rfl rfl ?_
          obtain ⟨y105, hy106, hp⟩ := bind_some hp
          have hc108 := digest_Of_ok hw hG hy106
          refine o_call hf cb_31 rfl rfl hc108 (fun v110 w a hK109 hf => ?_)
          obtain ⟨rfl, hw⟩ := hK109
          refine o_want hf (g := 50) rfl rfl ?_
          refine o_run hf (r_scmp hf rfl rfl rfl) rfl fun a hf => ?_
          refine o_run hf (r_pickT hf rfl rfl) rfl fun a hf => ?_
          refine o_run hf (r_move hf rfl) rfl fun a hf => ?_
          refine g_split hf (g := 56) rfl (fun hb111 hf => ?_) (fun hb111 hf => ?_)
          · replace hp := cond_t hb111 hp
            refine o_want hf (g := 56) rfl rfl ?_
            obtain ⟨y112, hy113, hp⟩ := bind_some hp
            have hc115 := law11_wakes_ok hw hG hy113
            refine o_call hf cb_13 rfl rfl hc115 (fun v117 w a hK116 hf => ?_)
            obtain ⟨rfl, hw⟩ := hK116
            refine o_run hf (r_pickT hf rfl rfl) rfl fun a hf => ?_
            refine o_run hf (r_assign hf rfl) rfl fun a hf => ?_
            refine o_nil ?_
            refine c_then ?_
            have ho := out_inj hp
            subst ho
            exact ⟨y112, rfl, hw, hf.to ⟨rfl, trivial⟩⟩
          · replace hp := cond_f hb111 hp
            refine o_skip hf (g := 56) rfl rfl rfl rfl rfl rfl fun a hf => ?_
            refine o_run hf (r_pickF hf rfl rfl) rfl fun a hf => ?_
            refine o_run hf (r_assign hf rfl) rfl fun a hf => ?_
            refine o_nil ?_
            refine c_then ?_
            have ho := out_inj hp
            subst ho
            exact ⟨false, rfl, hw, hf.to ⟨rfl, trivial⟩⟩
        · replace hp := cond_f hb104 hp
          refine o_skip hf (g := 50) rfl rfl rfl rfl rfl rfl fun a hf => ?_
          refine o_skip hf (g := 50) rfl rfl rfl rfl rfl rfl fun a hf => ?_
          refine o_skip hf (g := 50) rfl rfl rfl rfl rfl rfl fun a hf => ?_
          refine o_skip hf (g := 50) rfl rfl rfl rfl rfl rfl fun a hf => ?_
          refine o_run hf (r_pickF hf rfl rfl) rfl fun a hf => ?_
          refine o_run hf (r_move hf rfl) rfl fun a hf => ?_
          refine o_skip hf (g := 56) rfl rfl rfl rfl rfl rfl fun a hf => ?_
          refine o_run hf (r_pickF hf rfl rfl) rfl fun a hf => ?_
          refine o_run hf (r_assign hf rfl) rfl fun a hf => ?_
          refine o_nil ?_
          refine c_then ?_
          have ho := out_inj hp
          subst ho
          exact ⟨false, rfl, hw, hf.to ⟨rfl, trivial⟩⟩
      · intro a w hM
        obtain ⟨y101, rfl, hw, hf⟩ := hM
        replace hp := hq103
        refine wp_ret ?_
        replace hw : Ok E I2_45 (F) w := hw.sub (List.Sublist.cons _ (List.Sublist.cons _ (List.Sublist.refl _)))
        have ho := out_inj hp
        subst ho
        exact b_ret1 hf Go.Proofs.Tryd.results7 rfl ⟨_, rfl, ⟨rfl, (hw.back (IH.le_trans hle39 hle51) (List.Sublist.refl _))⟩⟩
end Go.Lf
