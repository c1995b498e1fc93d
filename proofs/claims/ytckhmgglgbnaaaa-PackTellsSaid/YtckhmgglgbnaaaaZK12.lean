/- The Go functions compute the plain Lean functions (printed by our lift.py). -/
import Derived.Test.YtckhmgglgbnaaaaZD
import Derived.Test.YtckhmgglgbnaaaaZF
import Derived.Test.YtckhmgglgbnaaaaN
import Derived.Test.YtckhmgglgbnaaaaZK9
import Derived.Test.YtckhmgglgbnaaaaZK10
set_option linter.unusedVariables false
set_option linter.unusedSimpArgs false
namespace Go.Lf
open Go
set_option maxHeartbeats 1000000 in
set_option maxRecDepth 20000 in
theorem ref10_Good_ok {E : World} {I : IH} {F : List Atom} {w : World} {a0 : List Node} {a0v1 : Value} {res0 : Bool} (hw : Ok E I (F) w) (hR2 : RS ek_Node I a0v1 a0) (hp : ref10_Good.f a0 = some res0) :
    Calls P 42 ⟨[a0v1]⟩ w fun e w' => ∃ v, e = .returned v ∧ v = Value.bool res0 ∧ Ok E I (F) w' := by
  refine c_enter Go.Proofs.Try.func42 rfl Go.Proofs.Try.ntmps42 rfl fun a hf => ?_
  replace hf : Fr 6 [(0, a0v1)] a := hf
  unfold ref10_Good.f at hp
  refine wp_seq ?_
  refine wp_region_lit ?_
  refine o_run hf (r_assign hf rfl) rfl fun a hf => ?_
  refine o_nil ?_
  refine c_then ?_
  refine wp_seq ?_
  refine wp_region_lit ?_
  refine o_run hf (r_move hf rfl) rfl fun a hf => ?_
  obtain ⟨y1, hy2, hp⟩ := bind_some hp
  have hc4 := ref10_Pairs_ok hw hR2 hy2
  refine o_call hf cb_37 rfl rfl hc4 (fun v8 w a hK5 hf => ?_)
  obtain ⟨I2_5, rvv6, rfl, hle9, hw, hR7⟩ := hK5
  replace hR2 := hR2.mono hle9
  refine o_run hf (r_field hf rfl fd_83_1 ty_4 rfl) rfl fun a hf => ?_
  refine o_run hf (r_assign hf rfl) rfl fun a hf => ?_
  refine o_nil ?_
  refine c_then ?_
  refine wp_ret ?_
  have ho := out_inj hp
  subst ho
  exact b_ret1 hf Go.Proofs.Try.results42 rfl ⟨_, rfl, ⟨rfl, (hw.back hle9 (List.Sublist.refl _))⟩⟩

set_option maxHeartbeats 1000000 in
set_option maxRecDepth 20000 in
theorem ref19_Size_ok {E : World} {I : IH} {F : List Atom} {w : World} {a0 : List Node} {a0v10419 : Value} {a1 : Int} {res0 : Int} (hw : Ok E I (F) w) (hR10420 : RS ek_Node I a0v10419 a0) (hp : ref19_Size.f a0 a1 = some res0) :
    Calls P 17 ⟨[a0v10419, Value.int .i64 a1]⟩ w fun e w' => ∃ v, e = .returned v ∧ v = Value.int .i64 res0 ∧ Ok E I (F) w' := by
  refine c_enter Go.Proofs.Try.func17 rfl Go.Proofs.Try.ntmps17 rfl fun a hf => ?_
  replace hf : Fr 23 [(0, a0v10419), (1, Value.int .i64 a1)] a := hf
  unfold ref19_Size.f at hp
  refine wp_seq ?_
  refine wp_region_lit ?_
  refine o_run hf (r_assign hf rfl) rfl fun a hf => ?_
  refine o_nil ?_
  refine c_then ?_
  refine wp_seq ?_
  obtain ⟨out55, hp, hq56⟩ := bind_some hp
  refine c_cut (fun a w => ∃ y54 : Bool, y54 = out55 ∧ Ok E I (F) w ∧ Fr 23 ([(0, a0v10419), (1, Value.int .i64 a1), (17, Value.bool y54)]) a) ?_ ?_
  · refine wp_region_lit ?_
    refine o_run hf (r_move hf rfl) rfl fun a hf => ?_
    obtain ⟨y57, hy58, hp⟩ := bind_some hp
    have hc60 := ref10_Good_ok hw hR10420 hy58
    refine o_call hf cb_42 rfl rfl hc60 (fun v62 w a hK61 hf => ?_)
    obtain ⟨rfl, hw⟩ := hK61
    refine o_run hf (r_not hf rfl) rfl fun a hf => ?_
    refine o_run hf (r_move hf rfl) rfl fun a hf => ?_
    refine g_split hf (g := 8) rfl (fun hb63 hf => ?_) (fun hb63 hf => ?_)
    · replace hp := cond_t hb63 hp
      refine o_skip hf (g := 8) rfl rfl rfl rfl rfl rfl fun a hf => ?_
      refine o_skip hf (g := 8) rfl rfl rfl rfl rfl rfl fun a hf => ?_
      refine o_run hf (r_pickT hf rfl rfl) rfl fun a hf => ?_
      refine o_run hf (r_move hf rfl) rfl fun a hf => ?_
      refine o_skip hf (g := 12) rfl rfl rfl rfl rfl rfl fun a hf => ?_
      refine o_skip hf (g := 12) rfl rfl rfl rfl rfl rfl fun a hf => ?_
      refine o_skip hf (g := 12) rfl rfl rfl rfl rfl rfl fun a hf => ?_
      refine o_skip hf (g := 12) rfl rfl rfl rfl rfl rfl fun a hf => ?_
      refine o_run hf (r_pickT hf rfl rfl) rfl fun a hf => ?_
      refine o_nil ?_
      refine c_then ?_
      have ho := out_inj hp
      subst ho
      exact ⟨true, rfl, hw, hf.to ⟨rfl, rfl, rfl, trivial⟩⟩
    · replace hp := cond_f hb63 hp
      refine o_want hf (g := 8) rfl rfl ?_
      refine o_run hf (r_move hf rfl) rfl fun a hf => ?_
      refine o_want hf (g := 8) rfl rfl ?_
      refine o_run hf (r_icmp hf rfl rfl rfl) rfl fun a hf => ?_
      refine o_run hf (r_pickF hf rfl rfl) rfl fun a hf => ?_
      refine o_run hf (r_move hf rfl) rfl fun a hf => ?_
      refine g_split hf (g := 12) rfl (fun hb64 hf => ?_) (fun hb64 hf => ?_)
      · replace hp := cond_t hb64 hp
        refine o_skip hf (g := 12) rfl rfl rfl rfl rfl rfl fun a hf => ?_
        refine o_skip hf (g := 12) rfl rfl rfl rfl rfl rfl fun a hf => ?_
        refine o_skip hf (g := 12) rfl rfl rfl rfl rfl rfl fun a hf => ?_
        refine o_skip hf (g := 12) rfl rfl rfl rfl rfl rfl fun a hf => ?_
        refine o_run hf (r_pickT hf rfl rfl) rfl fun a hf => ?_
        refine o_nil ?_
        refine c_then ?_
        have ho := out_inj hp
        subst ho
        exact ⟨true, rfl, hw, hf.to ⟨rfl, rfl, rfl, trivial⟩⟩
      · replace hp := cond_f hb64 hp
        refine o_want hf (g := 12) rfl rfl ?_
        refine o_run hf (r_move hf rfl) rfl fun a hf => ?_
        refine o_want hf (g := 12) rfl rfl ?_
        refine o_run hf (r_move hf rfl) rfl fun a hf => ?_
        refine o_want hf (g := 12) rfl rfl ?_
        refine o_run hf (r_lenL (K := ek_Node) hf el_23 rfl (hR10420.rd hw)) rfl fun a hf => ?_
        refine o_want hf (g := 12) rfl rfl ?_
        refine o_run hf (r_icmp hf rfl rfl rfl) rfl fun a hf => ?_
        refine o_run hf (r_pickF hf rfl rfl) rfl fun a hf => ?_
        refine o_nil ?_
        refine c_then ?_
        have ho := out_inj hp
        subst ho
        exact ⟨(decide (a1 ≥ (a0.length : Int))), rfl, hw, hf.to ⟨rfl, rfl, rfl, trivial⟩⟩
  · intro a w hM
    obtain ⟨y54, rfl, hw, hf⟩ := hM
    replace hp := hq56
    refine c_cond hf rfl (fun hb65 => ?_) (fun hb65 => ?_)
    · replace hp := cond_t hb65 hp
      refine wp_seq ?_
      refine wp_region_lit ?_
      refine o_run hf (r_assign hf rfl) rfl fun a hf => ?_
      refine o_nil ?_
      refine c_then ?_
      refine wp_ret ?_
      refine c_thenR ?_
      have ho := out_inj hp
      subst ho
      exact b_ret1 hf Go.Proofs.Try.results17 rfl ⟨_, rfl, ⟨rfl, hw⟩⟩
    · replace hp := cond_f hb65 hp
      refine wp_skip ?_
      refine c_then ?_
      refine wp_seq ?_
      refine wp_region_lit ?_
      refine o_run hf (r_move hf rfl) rfl fun a hf => ?_
      refine o_run hf (r_move hf rfl) rfl fun a hf => ?_
      obtain ⟨hg66, hp⟩ := gd_some hp
      refine o_run hf (r_indexAddr (K := ek_Node) hf el_23 rfl rfl (hR10420.rd hw) hg66) rfl fun a hf => ?_
      refine o_run hf (r_loadHP (K := ek_Node) hf rfl ty_51 (hR10420.rd hw) hg66 rfl (vs := (Value.int .i64 ((gt a0 a1).kind_) :: Value.string ((gt a0 a1).path_) :: Value.bool ((gt a0 a1).has_) :: Value.string ((gt a0 a1).value_) :: arrC .i64 ((gt a0 a1).kids_))) (fun cs h => Node_all h) (by simp [arrC_len])) rfl fun a hf => ?_
      obtain ⟨y67, hy68, hp⟩ := bind_some hp
      have hc70 := ref19_size_ok hw hy68
      refine o_call hf cb_39 rfl rfl hc70 (fun v72 w a hK71 hf => ?_)
      obtain ⟨rfl, hw⟩ := hK71
      refine o_run hf (r_assign hf rfl) rfl fun a hf => ?_
      refine o_nil ?_
      refine c_then ?_
      refine wp_ret ?_
      have ho := out_inj hp
      subst ho
      exact b_ret1 hf Go.Proofs.Try.results17 rfl ⟨_, rfl, ⟨rfl, hw⟩⟩

set_option maxHeartbeats 1000000 in
set_option maxRecDepth 20000 in
theorem ref19_Bytes_ok {E : World} {I : IH} {F : List Atom} {w : World} {a0 : List Node} {a0v86 : Value} {a1 : Plan} {a1v88 : Value} {a1v90 : Value} {res0 : Int} (hw : Ok E I (F) w) (hR87 : RS ek_Node I a0v86 a0) (hR89 : RS (ekI .i64) I a1v88 a1.nodes_) (hR91 : RS (ekI .i64) I a1v90 a1.kids_) (hp : ref19_Bytes.f a0 a1 = some res0) :
    Calls P 19 ⟨[a0v86, Value.agg ⟨[Value.string a1.prefix_, Value.int .i64 a1.top_, a1v88, a1v90]⟩]⟩ w fun e w' => ∃ v, e = .returned v ∧ v = Value.int .i64 res0 ∧ Ok E I (F) w' := by
  refine c_enter Go.Proofs.Try.func19 rfl Go.Proofs.Try.ntmps19 rfl fun a hf => ?_
  replace hf : Fr 96 [(0, a0v86), (1, Value.agg ⟨[Value.string a1.prefix_, Value.int .i64 a1.top_, a1v88, a1v90]⟩)] a := hf
  unfold ref19_Bytes.f at hp
  refine wp_seq ?_
  refine wp_region_lit ?_
  obtain ⟨b1, w, hrun2, hw⟩ := e_box (P := P) hw hf (e := 26) (x := .tmp 1) rfl (cs := [Value.string a1.prefix_, Value.int .i64 a1.top_, a1v88, a1v90]) rfl
  refine o_eff hf (hrun2 ..) rfl fun a hf => ?_
  refine o_run hf (r_assign hf rfl) rfl fun a hf => ?_
  refine o_nil ?_
  refine c_then ?_
  refine wp_seq ?_
  refine wp_seq ?_
  refine wp_region_lit ?_
  refine o_run hf (r_move hf rfl) rfl fun a hf => ?_
  obtain ⟨y4, hy5, hp⟩ := bind_some hp
  have hc7 := ref10_Good_ok hw hR87 hy5
  refine o_call hf cb_42 rfl rfl hc7 (fun v9 w a hK8 hf => ?_)
  obtain ⟨rfl, hw⟩ := hK8
  refine o_run hf (r_not hf rfl) rfl fun a hf => ?_
  refine o_nil ?_
  refine c_then ?_
  refine c_cond hf rfl (fun hb10 => ?_) (fun hb10 => ?_)
  · replace hp := cond_t hb10 hp
    refine wp_seq ?_
    refine wp_region_lit ?_
    refine o_run hf (r_assign hf rfl) rfl fun a hf => ?_
    refine o_nil ?_
    refine c_then ?_
    refine wp_ret ?_
    refine c_thenR ?_
    replace hw : Ok E I (F) w := hw.sub (List.Sublist.cons _ (List.Sublist.refl _))
    have ho := out_inj hp
    subst ho
    exact b_ret1 hf Go.Proofs.Try.results19 rfl ⟨_, rfl, ⟨rfl, hw⟩⟩
  · replace hp := cond_f hb10 hp
    refine wp_skip ?_
    refine c_then ?_
    refine wp_seq ?_
    refine wp_region_lit ?_
    refine o_run hf (r_move hf rfl) rfl fun a hf => ?_
    refine o_run hf (r_lenL (K := ek_Node) hf el_23 rfl (hR87.rd hw)) rfl fun a hf => ?_
    obtain ⟨hg11, hp⟩ := gd_some hp
    obtain ⟨w, v12, cs15, hrun13, hw, hRR14⟩ := e_makeSlice (P := P) (K := ekB) hw hf (l := .tmp 16) (c := .tmp 16) el_91 ty_4 rfl (by decide) rfl rfl (x := false) (fun _ => rfl) hg11
    refine o_eff hf (hrun13 ..) rfl fun a hf => ?_
    refine o_run hf (r_assign hf rfl) rfl fun a hf => ?_
    refine o_nil ?_
    refine c_then ?_
    refine wp_seq ?_
    refine wp_region_lit ?_
    refine o_run hf (r_assign hf rfl) rfl fun a hf => ?_
    refine o_nil ?_
    refine c_then ?_
    refine wp_seq ?_
    refine wp_seq ?_
    refine wp_region_lit ?_
    refine o_run hf (r_assign hf rfl) rfl fun a hf => ?_
    refine o_nil ?_
    refine c_then ?_
    obtain ⟨out304, hp, hq305⟩ := bind_some hp
    refine c_cutX (fun a w => ∃ y298 : List Bool, ∃ y303 : Int, ∃ yv299 : Value, ∃ m300 : Nat, ∃ cs301 : List Value, (.inl (y298, y303)) = out304 ∧ Ok E I (.row yv299 4 1 m300 cs301 :: .blk b1 (.cells ⟨[Value.string a1.prefix_, Value.int .i64 a1.top_, a1v88, a1v90]⟩ 26 (0, 0)) :: F) w ∧ Fr 96 ([(0, a0v86), (5, yv299), (6, Value.int .i64 y303)]) a ∧ RowR ekB I cs301 y298) ?_ ?_
    · refine wp_block ?_
      refine c_loop ?_
      refine c_fuel (ref19_Bytes.l0 a0 a1) out304 (fun (y202, y207, y208) a w => ∃ yv203 : Value, ∃ m204 : Nat, ∃ cs205 : List Value, Ok E I (.row yv203 4 1 m204 cs205 :: .blk b1 (.cells ⟨[Value.string a1.prefix_, Value.int .i64 a1.top_, a1v88, a1v90]⟩ 26 (0, 0)) :: F) w ∧ Fr 96 ([(0, a0v86), (3, Value.pointer (some ⟨b1, 0, none⟩)), (5, yv203), (6, Value.int .i64 y207), (7, Value.int .i64 y208)]) a ∧ RowR ekB I cs205 y202) (fun _ => rfl) ?_ BIG (List.replicate (a0.length : Int).toNat false, 0, 0) _ _ ⟨v12, (((a0.length : Int)).toNat), cs15, hw, hf.to ⟨rfl, rfl, rfl, rfl, rfl, trivial⟩, hRR14⟩ hp
      intro k st a w hI hp ih
      obtain ⟨y202, y207, y208⟩ := st
      obtain ⟨yv203, m204, cs205, hw, hf, hRR206⟩ := hI
      rw [ref19_Bytes.l0] at hp
      refine wp_seq ?_
      refine wp_seq ?_
      refine wp_region_lit ?_
      refine o_run hf (r_move hf rfl) rfl fun a hf => ?_
      refine o_run hf (r_fieldAddr hf rfl fd_26_2) rfl fun a hf => ?_
      refine o_run hf (r_load hw hf rfl ty_24 1 rfl rfl) rfl fun a hf => ?_
      refine o_run hf (r_lenL (K := (ekI .i64)) hf el_24 rfl (hR89.rd hw)) rfl fun a hf => ?_
      refine o_run hf (r_icmp hf rfl rfl rfl) rfl fun a hf => ?_
      refine o_nil ?_
      refine c_then ?_
      refine c_cond hf rfl (fun hb307 => ?_) (fun hb307 => ?_)
      · replace hp := cond_t hb307 hp
        refine wp_skip ?_
        refine c_then ?_
        refine wp_seq ?_
        refine wp_block ?_
        refine wp_seq ?_
        refine wp_region_lit ?_
        refine o_run hf (r_fieldAddr hf rfl fd_26_2) rfl fun a hf => ?_
        refine o_run hf (r_load hw hf rfl ty_24 1 rfl rfl) rfl fun a hf => ?_
        refine o_run hf (r_move hf rfl) rfl fun a hf => ?_
        obtain ⟨hg352, hp⟩ := gd_some hp
        refine o_run hf (r_indexAddr (K := (ekI .i64)) hf el_24 rfl rfl (hR89.rd hw) hg352) rfl fun a hf => ?_
        refine o_run hf (r_loadH (K := (ekI .i64)) hf rfl ty_3 (hR89.rd hw) hg352 rfl (fun cs h => ekI_f0 h)) rfl fun a hf => ?_
        refine o_run hf (r_assign hf rfl) rfl fun a hf => ?_
        refine o_nil ?_
        refine c_then ?_
        refine wp_seq ?_
        obtain ⟨out378, hp, hq379⟩ := bind_some hp
        refine c_cut (fun a w => ∃ y377 : Bool, y377 = out378 ∧ Ok E I (.row yv203 4 1 m204 cs205 :: .blk b1 (.cells ⟨[Value.string a1.prefix_, Value.int .i64 a1.top_, a1v88, a1v90]⟩ 26 (0, 0)) :: F) w ∧ Fr 96 ([(0, a0v86), (3, Value.pointer (some ⟨b1, 0, none⟩)), (5, yv203), (6, Value.int .i64 y207), (7, Value.int .i64 y208), (8, Value.int .i64 (gt a1.nodes_ y208)), (51, Value.bool y377)]) a) ?_ ?_
        · refine wp_region_lit ?_
          refine o_run hf (r_move hf rfl) rfl fun a hf => ?_
          refine o_run hf (r_icmp hf rfl rfl rfl) rfl fun a hf => ?_
          refine o_run hf (r_move hf rfl) rfl fun a hf => ?_
          refine g_split hf (g := 32) rfl (fun hb380 hf => ?_) (fun hb380 hf => ?_)
          · replace hp := cond_t hb380 hp
            refine o_skip hf (g := 32) rfl rfl rfl rfl rfl rfl fun a hf => ?_
            refine o_skip hf (g := 32) rfl rfl rfl rfl rfl rfl fun a hf => ?_
            refine o_skip hf (g := 32) rfl rfl rfl rfl rfl rfl fun a hf => ?_
            refine o_skip hf (g := 32) rfl rfl rfl rfl rfl rfl fun a hf => ?_
            refine o_run hf (r_pickT hf rfl rfl) rfl fun a hf => ?_
            refine o_run hf (r_move hf rfl) rfl fun a hf => ?_
            refine o_skip hf (g := 38) rfl rfl rfl rfl rfl rfl fun a hf => ?_
            refine o_skip hf (g := 38) rfl rfl rfl rfl rfl rfl fun a hf => ?_
            refine o_skip hf (g := 38) rfl rfl rfl rfl rfl rfl fun a hf => ?_
            refine o_skipU hf (g := 41) rfl rfl rfl rfl rfl fun a hf => ?_
            refine o_skipU hf (g := 41) rfl rfl rfl rfl rfl fun a hf => ?_
            refine o_skipU hf (g := 41) rfl rfl rfl rfl rfl fun a hf => ?_
            refine o_skipU hf (g := 41) rfl rfl rfl rfl rfl fun a hf => ?_
            refine o_skipU hf (g := 41) rfl rfl rfl rfl rfl fun a hf => ?_
            refine o_skipU hf (g := 41) rfl rfl rfl rfl rfl fun a hf => ?_
            refine o_skipU hf (g := 41) rfl rfl rfl rfl rfl fun a hf => ?_
            refine o_skipU hf (g := 41) rfl rfl rfl rfl rfl fun a hf => ?_
            refine o_skip hf (g := 38) rfl rfl rfl rfl rfl rfl fun a hf => ?_
            refine o_run hf (r_pickT hf rfl rfl) rfl fun a hf => ?_
            refine o_nil ?_
            refine c_then ?_
            have ho := out_inj hp
            subst ho
            exact ⟨true, rfl, hw, hf.to ⟨rfl, rfl, rfl, rfl, rfl, rfl, rfl, trivial⟩⟩
          · replace hp := cond_f hb380 hp
            refine o_want hf (g := 32) rfl rfl ?_
            refine o_run hf (r_move hf rfl) rfl fun a hf => ?_
            refine o_want hf (g := 32) rfl rfl ?_
            refine o_run hf (r_move hf rfl) rfl fun a hf => ?_
            refine o_want hf (g := 32) rfl rfl ?_
            refine o_run hf (r_lenL (K := ek_Node) hf el_23 rfl (hR87.rd hw)) rfl fun a hf => ?_
            refine o_want hf (g := 32) rfl rfl ?_
            refine o_run hf (r_icmp hf rfl rfl rfl) rfl fun a hf => ?_
            refine o_run hf (r_pickF hf rfl rfl) rfl fun a hf => ?_
            refine o_run hf (r_move hf rfl) rfl fun a hf => ?_
            refine g_split hf (g := 38) rfl (fun hb381 hf => ?_) (fun hb381 hf => ?_)
            · replace hp := cond_t hb381 hp
              refine o_skip hf (g := 38) rfl rfl rfl rfl rfl rfl fun a hf => ?_
              refine o_skip hf (g := 38) rfl rfl rfl rfl rfl rfl fun a hf => ?_
              refine o_skip hf (g := 38) rfl rfl rfl rfl rfl rfl fun a hf => ?_
              refine o_skipU hf (g := 41) rfl rfl rfl rfl rfl fun a hf => ?_
              refine o_skipU hf (g := 41) rfl rfl rfl rfl rfl fun a hf => ?_
              refine o_skipU hf (g := 41) rfl rfl rfl rfl rfl fun a hf => ?_
              refine o_skipU hf (g := 41) rfl rfl rfl rfl rfl fun a hf => ?_
              refine o_skipU hf (g := 41) rfl rfl rfl rfl rfl fun a hf => ?_
              refine o_skipU hf (g := 41) rfl rfl rfl rfl rfl fun a hf => ?_
              refine o_skipU hf (g := 41) rfl rfl rfl rfl rfl fun a hf => ?_
              refine o_skipU hf (g := 41) rfl rfl rfl rfl rfl fun a hf => ?_
              refine o_skip hf (g := 38) rfl rfl rfl rfl rfl rfl fun a hf => ?_
              refine o_run hf (r_pickT hf rfl rfl) rfl fun a hf => ?_
              refine o_nil ?_
              refine c_then ?_
              have ho := out_inj hp
              subst ho
              exact ⟨true, rfl, hw, hf.to ⟨rfl, rfl, rfl, rfl, rfl, rfl, rfl, trivial⟩⟩
            · replace hp := cond_f hb381 hp
              refine o_want hf (g := 38) rfl rfl ?_
              refine o_run hf (r_move hf rfl) rfl fun a hf => ?_
              refine o_want hf (g := 38) rfl rfl ?_
              refine o_run hf (r_icmp hf rfl rfl rfl) rfl fun a hf => ?_
              refine o_want hf (g := 38) rfl rfl ?_
              refine o_run hf (r_move hf rfl) rfl fun a hf => ?_
              refine g_split hf (g := 41) rfl (fun hb382 hf => ?_) (fun hb382 hf => ?_)
              · replace hp := cond_t hb382 hp
                refine o_want hf (g := 41) rfl rfl ?_
                refine o_run hf (r_move hf rfl) rfl fun a hf => ?_
                refine o_want hf (g := 41) rfl rfl ?_
                refine o_run hf (r_fieldAddr hf rfl fd_26_2) rfl fun a hf => ?_
                refine o_want hf (g := 41) rfl rfl ?_
                refine o_run hf (r_load hw hf rfl ty_24 1 rfl rfl) rfl fun a hf => ?_
                refine o_want hf (g := 41) rfl rfl ?_
                refine o_run hf (r_move hf rfl) rfl fun a hf => ?_
                refine o_want hf (g := 41) rfl rfl ?_
                refine o_run hf (r_sub hf rfl rfl) rfl fun a hf => ?_
                obtain ⟨hg383, hp⟩ := gd_some hp
                refine o_want hf (g := 41) rfl rfl ?_
                refine o_run hf (r_indexAddr (K := (ekI .i64)) hf el_24 rfl rfl (hR89.rd hw) hg383) rfl fun a hf => ?_
                refine o_want hf (g := 41) rfl rfl ?_
                refine o_run hf (r_loadH (K := (ekI .i64)) hf rfl ty_3 (hR89.rd hw) hg383 rfl (fun cs h => ekI_f0 h)) rfl fun a hf => ?_
                refine o_want hf (g := 41) rfl rfl ?_
                refine o_run hf (r_icmp hf rfl rfl rfl) rfl fun a hf => ?_
                refine o_want hf (g := 38) rfl rfl ?_
                refine o_run hf (r_pickT hf rfl rfl) rfl fun a hf => ?_
                refine o_run hf (r_pickF hf rfl rfl) rfl fun a hf => ?_
                refine o_nil ?_
                refine c_then ?_
                have ho := out_inj hp
                subst ho
                exact ⟨(decide ((gt a1.nodes_ y208) ≤ (gt a1.nodes_ (w64 (y208 - 1))))), rfl, hw, hf.to ⟨rfl, rfl, rfl, rfl, rfl, rfl, rfl, trivial⟩⟩
              · replace hp := cond_f hb382 hp
                refine o_skip hf (g := 41) rfl rfl rfl rfl rfl rfl fun a hf => ?_
                refine o_skip hf (g := 41) rfl rfl rfl rfl rfl rfl fun a hf => ?_
                refine o_skip hf (g := 41) rfl rfl rfl rfl rfl rfl fun a hf => ?_
                refine o_skip hf (g := 41) rfl rfl rfl rfl rfl rfl fun a hf => ?_
                refine o_skip hf (g := 41) rfl rfl rfl rfl rfl rfl fun a hf => ?_
                refine o_skip hf (g := 41) rfl rfl rfl rfl rfl rfl fun a hf => ?_
                refine o_skip hf (g := 41) rfl rfl rfl rfl rfl rfl fun a hf => ?_
                refine o_skip hf (g := 41) rfl rfl rfl rfl rfl rfl fun a hf => ?_
                refine o_want hf (g := 38) rfl rfl ?_
                refine o_run hf (r_pickF hf rfl rfl) rfl fun a hf => ?_
                refine o_run hf (r_pickF hf rfl rfl) rfl fun a hf => ?_
                refine o_nil ?_
                refine c_then ?_
                have ho := out_inj hp
                subst ho
                exact ⟨false, rfl, hw, hf.to ⟨rfl, rfl, rfl, rfl, rfl, rfl, rfl, trivial⟩⟩
        · intro a w hM
          obtain ⟨y377, rfl, hw, hf⟩ := hM
          replace hp := hq379
          refine c_cond hf rfl (fun hb384 => ?_) (fun hb384 => ?_)
          · replace hp := cond_t hb384 hp
            refine wp_seq ?_
            refine wp_region_lit ?_
            refine o_run hf (r_assign hf rfl) rfl fun a hf => ?_
            refine o_nil ?_
            refine c_then ?_
            refine wp_ret ?_
            refine c_thenR ?_
            refine c_blockR ?_
            refine c_thenR ?_
            refine c_thenR ?_
            refine c_blockR ?_
            refine c_thenR ?_
            have ho := out_inj hp
            subst ho
            replace hp := hq305
            refine c_thenR ?_
            replace hw : Ok E I (F) w := hw.sub (List.Sublist.cons _ (List.Sublist.cons _ (List.Sublist.refl _)))
            have ho := out_inj hp
            subst ho
            exact b_ret1 hf Go.Proofs.Try.results19 rfl ⟨_, rfl, ⟨rfl, hw⟩⟩
          · replace hp := cond_f hb384 hp
            refine wp_skip ?_
            refine c_then ?_
            refine wp_seq ?_
            refine wp_region_lit ?_
            refine o_run hf (r_move hf rfl) rfl fun a hf => ?_
            refine o_run hf (r_move hf rfl) rfl fun a hf => ?_
            refine o_run hf (r_move hf rfl) rfl fun a hf => ?_
            obtain ⟨hg385, hp⟩ := gd_some hp
            refine o_run hf (r_indexAddr (K := ek_Node) hf el_23 rfl rfl (hR87.rd hw) hg385) rfl fun a hf => ?_
            refine o_run hf (r_loadHP (K := ek_Node) hf rfl ty_51 (hR87.rd hw) hg385 rfl (vs := (Value.int .i64 ((gt a0 (gt a1.nodes_ y208)).kind_) :: Value.string ((gt a0 (gt a1.nodes_ y208)).path_) :: Value.bool ((gt a0 (gt a1.nodes_ y208)).has_) :: Value.string ((gt a0 (gt a1.nodes_ y208)).value_) :: arrC .i64 ((gt a0 (gt a1.nodes_ y208)).kids_))) (fun cs h => Node_all h) (by simp [arrC_len])) rfl fun a hf => ?_
            obtain ⟨y386, hy387, hp⟩ := bind_some hp
            have hc389 := ref19_size_ok hw hy387
            refine o_call hf cb_39 rfl rfl hc389 (fun v391 w a hK390 hf => ?_)
            obtain ⟨rfl, hw⟩ := hK390
            refine o_run hf (r_add hf rfl rfl) rfl fun a hf => ?_
            refine o_run hf (r_assign hf rfl) rfl fun a hf => ?_
            refine o_nil ?_
            refine c_then ?_
            refine wp_region_lit ?_
            refine o_run hf (r_move hf rfl) rfl fun a hf => ?_
            refine o_run hf (r_move hf rfl) rfl fun a hf => ?_
            obtain ⟨hg392, hp⟩ := gd_some hp
            refine o_run hf (r_indexAddr (K := ekB) hf el_91 rfl rfl (row_rd (K := ekB) hw (i := 0) rfl hRR206) hg392) rfl fun a hf => ?_
            obtain ⟨w, cs394, hrun393, hw, hRR395⟩ := e_storeH (P := P) (K := ekB) hw hf (x := .tmp 61) (y := .const (Value.bool true)) rfl rfl ty_4 0 rfl hRR206 hg392 rfl (vs := [Value.bool true]) (one_cells rfl) rfl (ones_cons rfl ones_nil) (Nat.le_of_eq (by rfl)) (x' := true) (whole_store rfl)
            replace hw : Ok E I (.row yv203 4 1 m204 cs394 :: .blk b1 (.cells ⟨[Value.string a1.prefix_, Value.int .i64 a1.top_, a1v88, a1v90]⟩ 26 (0, 0)) :: F) w := hw
            refine o_effU (hrun393 ..) ?_
            refine o_nil ?_
            refine c_blockN ?_
            refine c_then ?_
            refine wp_region_lit ?_
            refine o_run hf (r_move hf rfl) rfl fun a hf => ?_
            refine o_run hf (r_add hf rfl rfl) rfl fun a hf => ?_
            refine o_run hf (r_assign hf rfl) rfl fun a hf => ?_
            refine o_nil ?_
            refine c_then ?_
            exact ih (y202.set (gt a1.nodes_ y208).toNat true, w64 (y207 + y386), w64 (y208 + 1)) _ _ ⟨yv203, m204, cs394, hw, hf.to ⟨rfl, rfl, rfl, rfl, rfl, trivial⟩, hRR395⟩ hp
      · replace hp := cond_f hb307 hp
        refine wp_exit ?_
        refine c_thenE ?_
        refine c_thenE ?_
        refine c_exit ?_
        refine c_then ?_
        have ho := out_inj hp
        subst ho
        exact ⟨y202, y207, yv203, m204, cs205, rfl, hw, hf.to ⟨rfl, rfl, rfl, trivial⟩, hRR206⟩
    · intro a w hM
      obtain ⟨y298, y303, yv299, m300, cs301, rfl, hw, hf, hRR302⟩ := hM
      replace hp := hq305
      refine c_then ?_
      refine wp_seq ?_
      refine wp_seq ?_
      refine wp_region_lit ?_
      refine o_run hf (r_assign hf rfl) rfl fun a hf => ?_
      refine o_nil ?_
      refine c_then ?_
      obtain ⟨out1140, hp, hq1141⟩ := bind_some hp
      refine c_cutX (fun a w => ∃ y1139 : Int, y1139 = out1140 ∧ Ok E I (.row yv299 4 1 m300 cs301 :: .blk b1 (.cells ⟨[Value.string a1.prefix_, Value.int .i64 a1.top_, a1v88, a1v90]⟩ 26 (0, 0)) :: F) w ∧ Fr 96 ([(6, Value.int .i64 y1139)]) a) ?_ ?_
      · refine wp_block ?_
        refine c_loop ?_
        refine c_fuel (ref19_Bytes.l1 a0 y298) out1140 (fun (y891, y892) a w => Ok E I (.row yv299 4 1 m300 cs301 :: .blk b1 (.cells ⟨[Value.string a1.prefix_, Value.int .i64 a1.top_, a1v88, a1v90]⟩ 26 (0, 0)) :: F) w ∧ Fr 96 ([(0, a0v86), (5, yv299), (6, Value.int .i64 y891), (9, Value.int .i64 y892)]) a) (fun _ => rfl) ?_ BIG (y303, 0) _ _ ⟨hw, hf.to ⟨rfl, rfl, rfl, rfl, trivial⟩⟩ hp
        intro k st a w hI hp ih
        obtain ⟨y891, y892⟩ := st
        obtain ⟨hw, hf⟩ := hI
        rw [ref19_Bytes.l1] at hp
        refine wp_seq ?_
        refine wp_seq ?_
        refine wp_region_lit ?_
        refine o_run hf (r_move hf rfl) rfl fun a hf => ?_
        refine o_run hf (r_move hf rfl) rfl fun a hf => ?_
        refine o_run hf (r_lenL (K := ek_Node) hf el_23 rfl (hR87.rd hw)) rfl fun a hf => ?_
        refine o_run hf (r_icmp hf rfl rfl rfl) rfl fun a hf => ?_
        refine o_nil ?_
        refine c_then ?_
        refine c_cond hf rfl (fun hb1143 => ?_) (fun hb1143 => ?_)
        · replace hp := cond_t hb1143 hp
          refine wp_skip ?_
          refine c_then ?_
          refine wp_seq ?_
          refine wp_block ?_
          refine wp_seq ?_
          refine wp_region_lit ?_
          refine o_run hf (r_assign hf rfl) rfl fun a hf => ?_
          refine o_nil ?_
          refine c_then ?_
          obtain ⟨out1326, hp, hq1327⟩ := bind_some hp
          refine c_cutX (fun a w => ∃ y1325 : Int, y1325 = out1326 ∧ Ok E I (.row yv299 4 1 m300 cs301 :: .blk b1 (.cells ⟨[Value.string a1.prefix_, Value.int .i64 a1.top_, a1v88, a1v90]⟩ 26 (0, 0)) :: F) w ∧ Fr 96 ([(0, a0v86), (5, yv299), (6, Value.int .i64 y1325), (9, Value.int .i64 y892)]) a) ?_ ?_
          · refine wp_block ?_
            refine c_loop ?_
            refine c_fuel (ref19_Bytes.l2 a0 y298 y892) out1326 (fun (y1264, y1265) a w => Ok E I (.row yv299 4 1 m300 cs301 :: .blk b1 (.cells ⟨[Value.string a1.prefix_, Value.int .i64 a1.top_, a1v88, a1v90]⟩ 26 (0, 0)) :: F) w ∧ Fr 96 ([(0, a0v86), (5, yv299), (6, Value.int .i64 y1265), (9, Value.int .i64 y892), (10, Value.int .i64 y1264)]) a) (fun _ => rfl) ?_ BIG (0, y891) _ _ ⟨hw, hf.to ⟨rfl, rfl, rfl, rfl, rfl, trivial⟩⟩ hp
            intro k st a w hI hp ih
            obtain ⟨y1264, y1265⟩ := st
            obtain ⟨hw, hf⟩ := hI
            rw [ref19_Bytes.l2] at hp
            refine wp_seq ?_
            obtain ⟨out1344, hp, hq1345⟩ := bind_some hp
            refine c_cut (fun a w => ∃ y1343 : Bool, y1343 = out1344 ∧ Ok E I (.row yv299 4 1 m300 cs301 :: .blk b1 (.cells ⟨[Value.string a1.prefix_, Value.int .i64 a1.top_, a1v88, a1v90]⟩ 26 (0, 0)) :: F) w ∧ Fr 96 ([(0, a0v86), (5, yv299), (6, Value.int .i64 y1265), (9, Value.int .i64 y892), (10, Value.int .i64 y1264), (75, Value.bool y1343)]) a) ?_ ?_
            · refine wp_region_lit ?_
              refine o_run hf (r_move hf rfl) rfl fun a hf => ?_
              refine o_run hf (r_icmp hf rfl rfl rfl) rfl fun a hf => ?_
              refine o_run hf (r_move hf rfl) rfl fun a hf => ?_
              refine g_split hf (g := 70) rfl (fun hb1346 hf => ?_) (fun hb1346 hf => ?_)
              · replace hp := cond_t hb1346 hp
                refine o_want hf (g := 70) rfl rfl ?_
                refine o_run hf (r_move hf rfl) rfl fun a hf => ?_
                refine o_want hf (g := 70) rfl rfl ?_
                refine o_run hf (r_move hf rfl) rfl fun a hf => ?_
                obtain ⟨hg1347, hp⟩ := gd_some hp
                refine o_want hf (g := 70) rfl rfl ?_
                refine o_run hf (r_indexAddr (K := ekB) hf el_91 rfl rfl (row_rd (K := ekB) hw (i := 0) rfl hRR302) hg1347) rfl fun a hf => ?_
                refine o_want hf (g := 70) rfl rfl ?_
                refine o_run hf (r_loadH (K := ekB) hf rfl ty_4 (row_rd (K := ekB) hw (i := 0) rfl hRR302) hg1347 rfl (fun cs h => ekB_f0 h)) rfl fun a hf => ?_
                refine o_run hf (r_pickT hf rfl rfl) rfl fun a hf => ?_
                refine o_nil ?_
                refine c_then ?_
                have ho := out_inj hp
                subst ho
                exact ⟨(gt y298 y892), rfl, hw, hf.to ⟨rfl, rfl, rfl, rfl, rfl, rfl, trivial⟩⟩
              · replace hp := cond_f hb1346 hp
                refine o_skip hf (g := 70) rfl rfl rfl rfl rfl rfl fun a hf => ?_
                refine o_skip hf (g := 70) rfl rfl rfl rfl rfl rfl fun a hf => ?_
                refine o_skip hf (g := 70) rfl rfl rfl rfl rfl rfl fun a hf => ?_
                refine o_skip hf (g := 70) rfl rfl rfl rfl rfl rfl fun a hf => ?_
                refine o_run hf (r_pickF hf rfl rfl) rfl fun a hf => ?_
                refine o_nil ?_
                refine c_then ?_
                have ho := out_inj hp
                subst ho
                exact ⟨false, rfl, hw, hf.to ⟨rfl, rfl, rfl, rfl, rfl, rfl, trivial⟩⟩
            · intro a w hM
              obtain ⟨y1343, rfl, hw, hf⟩ := hM
              replace hp := hq1345
              refine c_cond hf rfl (fun hb1348 => ?_) (fun hb1348 => ?_)
              · replace hp := cond_t hb1348 hp
                refine wp_skip ?_
                refine c_then ?_
                obtain ⟨out1374, hp, hq1375⟩ := bind_some hp
                refine c_cut (fun a w => ∃ y1373 : Int, y1373 = out1374 ∧ Ok E I (.row yv299 4 1 m300 cs301 :: .blk b1 (.cells ⟨[Value.string a1.prefix_, Value.int .i64 a1.top_, a1v88, a1v90]⟩ 26 (0, 0)) :: F) w ∧ Fr 96 ([(0, a0v86), (5, yv299), (6, Value.int .i64 y1373), (9, Value.int .i64 y892), (10, Value.int .i64 y1264)]) a) ?_ ?_
                · refine wp_block ?_
                  refine wp_seq ?_
                  refine wp_region_lit ?_
                  refine o_run hf (r_move hf rfl) rfl fun a hf => ?_
                  refine o_run hf (r_move hf rfl) rfl fun a hf => ?_
                  refine o_run hf (r_move hf rfl) rfl fun a hf => ?_
                  obtain ⟨hg1376, hp⟩ := gd_some hp
                  refine o_run hf (r_indexAddr (K := ek_Node) hf el_23 rfl rfl (hR87.rd hw) hg1376) rfl fun a hf => ?_
                  refine o_run hf (r_fieldAddrH hf rfl fd_51_4) rfl fun a hf => ?_
                  obtain ⟨hg1377, hp⟩ := gd_some hp
                  refine o_run hf (r_indexAddrAH hf el_49 rfl rfl hg1377) rfl fun a hf => ?_
                  refine o_run hf (r_loadH (K := ek_Node) hf rfl ty_3 (hR87.rd hw) hg1376 (Nat.add_assoc ..) (fun cs h => Node_at h hg1377)) rfl fun a hf => ?_
                  refine o_run hf (r_assign hf rfl) rfl fun a hf => ?_
                  refine o_nil ?_
                  refine c_then ?_
                  obtain ⟨out1383, hp, hq1384⟩ := bind_some hp
                  refine c_cut (fun a w => ∃ y1382 : Bool, y1382 = out1383 ∧ Ok E I (.row yv299 4 1 m300 cs301 :: .blk b1 (.cells ⟨[Value.string a1.prefix_, Value.int .i64 a1.top_, a1v88, a1v90]⟩ 26 (0, 0)) :: F) w ∧ Fr 96 ([(0, a0v86), (5, yv299), (6, Value.int .i64 y1265), (9, Value.int .i64 y892), (10, Value.int .i64 y1264), (92, Value.bool y1382)]) a) ?_ ?_
                  · refine wp_region_lit ?_
                    refine o_run hf (r_move hf rfl) rfl fun a hf => ?_
                    refine o_run hf (r_icmp hf rfl rfl rfl) rfl fun a hf => ?_
                    refine o_run hf (r_move hf rfl) rfl fun a hf => ?_
                    refine g_split hf (g := 87) rfl (fun hb1385 hf => ?_) (fun hb1385 hf => ?_)
                    · replace hp := cond_t hb1385 hp
                      refine o_want hf (g := 87) rfl rfl ?_
                      refine o_run hf (r_move hf rfl) rfl fun a hf => ?_
                      refine o_want hf (g := 87) rfl rfl ?_
                      refine o_run hf (r_move hf rfl) rfl fun a hf => ?_
                      obtain ⟨hg1386, hp⟩ := gd_some hp
                      refine o_want hf (g := 87) rfl rfl ?_
                      refine o_run hf (r_indexAddr (K := ekB) hf el_91 rfl rfl (row_rd (K := ekB) hw (i := 0) rfl hRR302) hg1386) rfl fun a hf => ?_
                      refine o_want hf (g := 87) rfl rfl ?_
                      refine o_run hf (r_loadH (K := ekB) hf rfl ty_4 (row_rd (K := ekB) hw (i := 0) rfl hRR302) hg1386 rfl (fun cs h => ekB_f0 h)) rfl fun a hf => ?_
                      refine o_run hf (r_pickT hf rfl rfl) rfl fun a hf => ?_
                      refine o_nil ?_
                      refine c_then ?_
                      have ho := out_inj hp
                      subst ho
                      exact ⟨(gt y298 (vg (gt a0 y892).kids_ y1264)), rfl, hw, hf.to ⟨rfl, rfl, rfl, rfl, rfl, rfl, trivial⟩⟩
                    · replace hp := cond_f hb1385 hp
                      refine o_skip hf (g := 87) rfl rfl rfl rfl rfl rfl fun a hf => ?_
                      refine o_skip hf (g := 87) rfl rfl rfl rfl rfl rfl fun a hf => ?_
                      refine o_skip hf (g := 87) rfl rfl rfl rfl rfl rfl fun a hf => ?_
                      refine o_skip hf (g := 87) rfl rfl rfl rfl rfl rfl fun a hf => ?_
                      refine o_run hf (r_pickF hf rfl rfl) rfl fun a hf => ?_
                      refine o_nil ?_
                      refine c_then ?_
                      have ho := out_inj hp
                      subst ho
                      exact ⟨false, rfl, hw, hf.to ⟨rfl, rfl, rfl, rfl, rfl, rfl, trivial⟩⟩
                  · intro a w hM
                    obtain ⟨y1382, rfl, hw, hf⟩ := hM
                    replace hp := hq1384
                    refine c_cond hf rfl (fun hb1387 => ?_) (fun hb1387 => ?_)
                    · replace hp := cond_t hb1387 hp
                      refine wp_region_lit ?_
                      refine o_run hf (r_move hf rfl) rfl fun a hf => ?_
                      refine o_run hf (r_sub hf rfl rfl) rfl fun a hf => ?_
                      refine o_run hf (r_assign hf rfl) rfl fun a hf => ?_
                      refine o_nil ?_
                      refine c_blockN ?_
                      refine c_then ?_
                      have ho := out_inj hp
                      subst ho
                      exact ⟨(w64 (y1265 - 3)), rfl, hw, hf.to ⟨rfl, rfl, rfl, rfl, rfl, trivial⟩⟩
                    · replace hp := cond_f hb1387 hp
                      refine wp_skip ?_
                      refine c_blockN ?_
                      refine c_then ?_
                      have ho := out_inj hp
                      subst ho
                      exact ⟨y1265, rfl, hw, hf.to ⟨rfl, rfl, rfl, rfl, rfl, trivial⟩⟩
                · intro a w hM
                  obtain ⟨y1373, rfl, hw, hf⟩ := hM
                  replace hp := hq1375
                  refine wp_region_lit ?_
                  refine o_run hf (r_move hf rfl) rfl fun a hf => ?_
                  refine o_run hf (r_add hf rfl rfl) rfl fun a hf => ?_
                  refine o_run hf (r_assign hf rfl) rfl fun a hf => ?_
                  refine o_nil ?_
                  refine c_then ?_
                  exact ih (w64 (y1264 + 1), y1373) _ _ ⟨hw, hf.to ⟨rfl, rfl, rfl, rfl, rfl, trivial⟩⟩ hp
              · replace hp := cond_f hb1348 hp
                refine wp_exit ?_
                refine c_thenE ?_
                refine c_thenE ?_
                refine c_exit ?_
                refine c_then ?_
                have ho := out_inj hp
                subst ho
                exact ⟨y1265, rfl, hw, hf.to ⟨rfl, rfl, rfl, rfl, trivial⟩⟩
          · intro a w hM
            obtain ⟨y1325, rfl, hw, hf⟩ := hM
            replace hp := hq1327
            refine c_blockN ?_
            refine c_then ?_
            refine wp_region_lit ?_
            refine o_run hf (r_move hf rfl) rfl fun a hf => ?_
            refine o_run hf (r_add hf rfl rfl) rfl fun a hf => ?_
            refine o_run hf (r_assign hf rfl) rfl fun a hf => ?_
            refine o_nil ?_
            refine c_then ?_
            exact ih (y1325, w64 (y892 + 1)) _ _ ⟨hw, hf.to ⟨rfl, rfl, rfl, rfl, trivial⟩⟩ hp
        · replace hp := cond_f hb1143 hp
          refine wp_exit ?_
          refine c_thenE ?_
          refine c_thenE ?_
          refine c_exit ?_
          refine c_then ?_
          have ho := out_inj hp
          subst ho
          exact ⟨y891, rfl, hw, hf.to ⟨rfl, trivial⟩⟩
      · intro a w hM
        obtain ⟨y1139, rfl, hw, hf⟩ := hM
        replace hp := hq1141
        refine c_then ?_
        refine wp_seq ?_
        refine wp_region_lit ?_
        refine o_run hf (r_move hf rfl) rfl fun a hf => ?_
        refine o_run hf (r_assign hf rfl) rfl fun a hf => ?_
        refine o_nil ?_
        refine c_then ?_
        refine wp_ret ?_
        replace hw : Ok E I (F) w := hw.sub (List.Sublist.cons _ (List.Sublist.cons _ (List.Sublist.refl _)))
        have ho := out_inj hp
        subst ho
        exact b_ret1 hf Go.Proofs.Try.results19 rfl ⟨_, rfl, ⟨rfl, hw⟩⟩
end Go.Lf
