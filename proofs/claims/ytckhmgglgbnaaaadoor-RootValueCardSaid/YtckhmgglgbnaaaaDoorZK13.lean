/- The Go functions compute the plain Lean functions (printed by our lift.py). -/
import Derived.Test.YtckhmgglgbnaaaaDoorZD
import Derived.Test.YtckhmgglgbnaaaaDoorZF
import Derived.Test.YtckhmgglgbnaaaaDoorJ
import Derived.Test.YtckhmgglgbnaaaaDoorZK10
set_option linter.unusedVariables false
set_option linter.unusedSimpArgs false
namespace Go.Lf
open Go
set_option maxHeartbeats 1000000 in
set_option maxRecDepth 20000 in
theorem keep_Item_ok {E : World} {I : IH} {F : List Atom} {w : World} {a0 : Item} {a0v284 : Value} {a1 : Item} {a1v286 : Value} {res0 : Bool} (hw : Ok E I (F) w) (hG : Gl I) (hR285 : RS ekS I a0v284 a0.hashes_) (hR287 : RS ekS I a1v286 a1.hashes_) (hp : keep_Item.f a0 a1 = some res0) :
    Calls P 20 ⟨[Value.agg ⟨[Value.int .i64 a0.kind_, Value.string a0.path_, Value.bool a0.has_, Value.string a0.value_, Value.int .i64 a0.mask_, a0v284]⟩, Value.agg ⟨[Value.int .i64 a1.kind_, Value.string a1.path_, Value.bool a1.has_, Value.string a1.value_, Value.int .i64 a1.mask_, a1v286]⟩]⟩ w fun e w' => ∃ v, e = .returned v ∧ v = Value.bool res0 ∧ Ok E I (F) w' := by
  refine c_enter Go.Proofs.Tryd.func20 rfl Go.Proofs.Tryd.ntmps20 rfl fun a hf => ?_
  replace hf : Fr 45 [(0, Value.agg ⟨[Value.int .i64 a0.kind_, Value.string a0.path_, Value.bool a0.has_, Value.string a0.value_, Value.int .i64 a0.mask_, a0v284]⟩), (1, Value.agg ⟨[Value.int .i64 a1.kind_, Value.string a1.path_, Value.bool a1.has_, Value.string a1.value_, Value.int .i64 a1.mask_, a1v286]⟩)] a := hf
  unfold keep_Item.f at hp
  refine wp_seq ?_
  refine wp_region_lit ?_
  obtain ⟨b1, w, hrun2, hw⟩ := e_box (P := P) hw hf (e := 32) (x := .tmp 0) rfl (cs := [Value.int .i64 a0.kind_, Value.string a0.path_, Value.bool a0.has_, Value.string a0.value_, Value.int .i64 a0.mask_, a0v284]) rfl
  refine o_eff hf (hrun2 ..) rfl fun a hf => ?_
  obtain ⟨b4, w, hrun5, hw⟩ := e_box (P := P) hw hf (e := 32) (x := .tmp 1) rfl (cs := [Value.int .i64 a1.kind_, Value.string a1.path_, Value.bool a1.has_, Value.string a1.value_, Value.int .i64 a1.mask_, a1v286]) rfl
  refine o_eff hf (hrun5 ..) rfl fun a hf => ?_
  refine o_run hf (r_assign hf rfl) rfl fun a hf => ?_
  refine o_nil ?_
  refine c_then ?_
  obtain ⟨out30, hp, hq31⟩ := bind_some hp
  refine c_cut (fun a w => ∃ y29 : Bool, y29 = out30 ∧ Ok E I (.blk b4 (.cells ⟨[Value.int .i64 a1.kind_, Value.string a1.path_, Value.bool a1.has_, Value.string a1.value_, Value.int .i64 a1.mask_, a1v286]⟩ 32 (0, 0)) :: .blk b1 (.cells ⟨[Value.int .i64 a0.kind_, Value.string a0.path_, Value.bool a0.has_, Value.string a0.value_, Value.int .i64 a0.mask_, a0v284]⟩ 32 (0, 0)) :: F) w ∧ Fr 45 ([(4, Value.bool y29)]) a) ?_ ?_
  · refine wp_region_lit ?_
    refine o_run hf (r_fieldAddr hf rfl fd_32_0) rfl fun a hf => ?_
    refine o_run hf (r_load hw hf rfl ty_3 1 rfl rfl) rfl fun a hf => ?_
    refine o_run hf (r_fieldAddr hf rfl fd_32_0) rfl fun a hf => ?_
    refine o_run hf (r_load hw hf rfl ty_3 0 rfl rfl) rfl fun a hf => ?_
    refine o_run hf (r_icmp hf rfl rfl rfl) rfl fun a hf => ?_
    refine o_run hf (r_move hf rfl) rfl fun a hf => ?_
    refine g_split hf (g := 10) rfl (fun hb32 hf => ?_) (fun hb32 hf => ?_)
    · replace hp := cond_t hb32 hp
      refine o_want hf (g := 10) rfl rfl ?_
      refine o_run hf (r_fieldAddr hf rfl fd_32_1) rfl fun a hf => ?_
      refine o_want hf (g := 10) rfl rfl ?_
      refine o_run hf (r_load hw hf rfl ty_9 1 rfl rfl) rfl fun a hf => ?_
      refine o_want hf (g := 10) rfl rfl ?_
      refine o_run hf (r_fieldAddr hf rfl fd_32_1) rfl fun a hf => ?_
      refine o_want hf (g := 10) rfl rfl ?_
      refine o_run hf (r_load hw hf rfl ty_9 0 rfl rfl) rfl fun a hf => ?_
      refine o_want hf (g := 10) rfl rfl ?_
      refine o_run hf (r_scmp hf rfl rfl rfl) rfl fun a hf => ?_
      refine o_run hf (r_pickT hf rfl rfl) rfl fun a hf => ?_
      refine o_run hf (r_move hf rfl) rfl fun a hf => ?_
      refine g_split hf (g := 17) rfl (fun hb33 hf => ?_) (fun hb33 hf => ?_)
      · replace hp := cond_t hb33 hp
        refine o_want hf (g := 17) rfl rfl ?_
        refine o_run hf (r_fieldAddr hf rfl fd_32_2) rfl fun a hf => ?_
        refine o_want hf (g := 17) rfl rfl ?_
        refine o_run hf (r_load hw hf rfl ty_4 1 rfl rfl) rfl fun a hf => ?_
        refine o_want hf (g := 17) rfl rfl ?_
        refine o_run hf (r_fieldAddr hf rfl fd_32_2) rfl fun a hf => ?_
        refine o_want hf (g := 17) rfl rfl ?_
        refine o_run hf (r_load hw hf rfl ty_4 0 rfl rfl) rfl fun a hf => ?_
        refine o_want hf (g := 17) rfl rfl ?_
        refine o_run hf (r_beq hf und_4 rfl rfl) rfl fun a hf => ?_
        refine o_run hf (r_pickT hf rfl rfl) rfl fun a hf => ?_
        refine o_run hf (r_move hf rfl) rfl fun a hf => ?_
        refine g_split hf (g := 24) rfl (fun hb34 hf => ?_) (fun hb34 hf => ?_)
        · replace hp := cond_t hb34 hp
          refine o_want hf (g := 24) rfl rfl ?_
          refine o_run hf (r_fieldAddr hf rfl fd_32_3) rfl fun a hf => ?_
          refine o_want hf (g := 24) rfl rfl ?_
          refine o_run hf (r_load hw hf rfl ty_9 1 rfl rfl) rfl fun a hf => ?_
          refine o_want hf (g := 24) rfl rfl ?_
          refine o_run hf (r_fieldAddr hf rfl fd_32_3) rfl fun a hf => ?_
          refine o_want hf (g := 24) rfl rfl ?_
          refine o_run hf (r_load hw hf rfl ty_9 0 rfl rfl) rfl fun a hf => ?_
          refine o_want hf (g := 24) rfl rfl ?_
          refine o_run hf (r_scmp hf rfl rfl rfl) rfl fun a hf => ?_
          refine o_run hf (r_pickT hf rfl rfl) rfl fun a hf => ?_
          refine o_run hf (r_move hf rfl) rfl fun a hf => ?_
          refine g_split hf (g := 31) rfl (fun hb35 hf => ?_) (fun hb35 hf => ?_)
          · replace hp := cond_t hb35 hp
            refine o_want hf (g := 31) rfl rfl ?_
            refine o_run hf (r_fieldAddr hf rfl fd_32_4) rfl fun a hf => ?_
            refine o_want hf (g := 31) rfl rfl ?_
            refine o_run hf (r_load hw hf rfl ty_3 1 rfl rfl) rfl fun a hf => ?_
            refine o_want hf (g := 31) rfl rfl ?_
            refine o_run hf (r_fieldAddr hf rfl fd_32_4) rfl fun a hf => ?_
            refine o_want hf (g := 31) rfl rfl ?_
            refine o_run hf (r_load hw hf rfl ty_3 0 rfl rfl) rfl fun a hf => ?_
            refine o_want hf (g := 31) rfl rfl ?_
            refine o_run hf (r_icmp hf rfl rfl rfl) rfl fun a hf => ?_
            refine o_run hf (r_pickT hf rfl rfl) rfl fun a hf => ?_
            refine o_run hf (r_move hf rfl) rfl fun a hf => ?_
            refine g_split hf (g := 38) rfl (fun hb36 hf => ?_) (fun hb36 hf => ?_)
            · replace hp := cond_t hb36 hp
              refine o_want hf (g := 38) rfl rfl ?_
              refine o_run hf (r_fieldAddr hf rfl fd_32_5) rfl fun a hf => ?_
              refine o_want hf (g := 38) rfl rfl ?_
              refine o_run hf (r_load hw hf rfl ty_28 1 rfl rfl) rfl fun a hf => ?_
              refine o_want hf (g := 38) rfl rfl ?_
              refine o_run hf (r_fieldAddr hf rfl fd_32_5) rfl fun a hf => ?_
              refine o_want hf (g := 38) rfl rfl ?_
              refine o_run hf (r_load hw hf rfl ty_28 0 rfl rfl) rfl fun a hf => ?_
              refine o_want hf (g := 38) rfl rfl ?_
              obtain ⟨y37, hy38, hp⟩ := bind_some hp
              have hc40 := keep_Texts_ok hw hG hR285 hR287 hy38
              refine o_call hf cb_19 rfl rfl hc40 (fun v42 w a hK41 hf => ?_)
              obtain ⟨rfl, hw⟩ := hK41
              refine o_run hf (r_pickT hf rfl rfl) rfl fun a hf => ?_
              refine o_run hf (r_assign hf rfl) rfl fun a hf => ?_
              refine o_nil ?_
              refine c_then ?_
              have ho := out_inj hp
              subst ho
              exact ⟨y37, rfl, hw, hf.to ⟨rfl, trivial⟩⟩
            · replace hp := cond_f hb36 hp
              refine o_skip hf (g := 38) rfl rfl rfl rfl rfl rfl fun a hf => ?_
              refine o_skip hf (g := 38) rfl rfl rfl rfl rfl rfl fun a hf => ?_
              refine o_skip hf (g := 38) rfl rfl rfl rfl rfl rfl fun a hf => ?_
              refine o_skip hf (g := 38) rfl rfl rfl rfl rfl rfl fun a hf => ?_
              refine o_skip hf (g := 38) rfl rfl rfl rfl rfl rfl fun a hf => ?_
              refine o_run hf (r_pickF hf rfl rfl) rfl fun a hf => ?_
              refine o_run hf (r_assign hf rfl) rfl fun a hf => ?_
              refine o_nil ?_
              refine c_then ?_
              have ho := out_inj hp
              subst ho
              exact ⟨false, rfl, hw, hf.to ⟨rfl, trivial⟩⟩
          · replace hp := cond_f hb35 hp
            refine o_skip hf (g := 31) rfl rfl rfl rfl rfl rfl fun a hf => ?_
            refine o_skip hf (g := 31) rfl rfl rfl rfl rfl rfl fun a hf => ?_
            refine o_skip hf (g := 31) rfl rfl rfl rfl rfl rfl fun a hf => ?_
            refine o_skip hf (g := 31) rfl rfl rfl rfl rfl rfl fun a hf => ?_
            refine o_skip hf (g := 31) rfl rfl rfl rfl rfl rfl fun a hf => ?_
            refine o_run hf (r_pickF hf rfl rfl) rfl fun a hf => ?_
            refine o_run hf (r_move hf rfl) rfl fun a hf => ?_
            refine o_skip hf (g := 38) rfl rfl rfl rfl rfl rfl fun a hf => ?_
            refine o_skip hf (g := 38) rfl rfl rfl rfl rfl rfl fun a hf => ?_
            refine o_skip hf (g := 38) rfl rfl rfl rfl rfl rfl fun a hf => ?_
            refine o_skip hf (g := 38) rfl rfl rfl rfl rfl rfl fun a hf => ?_
            refine o_skip hf (g := 38) rfl rfl rfl rfl rfl rfl fun a hf => ?_
            refine o_run hf (r_pickF hf rfl rfl) rfl fun a hf => ?_
            refine o_run hf (r_assign hf rfl) rfl fun a hf => ?_
            refine o_nil ?_
            refine c_then ?_
            have ho := out_inj hp
            subst ho
            exact ⟨false, rfl, hw, hf.to ⟨rfl, trivial⟩⟩
        · replace hp := cond_f hb34 hp
          refine o_skip hf (g := 24) rfl rfl rfl rfl rfl rfl fun a hf => ?_
          refine o_skip hf (g := 24) rfl rfl rfl rfl rfl rfl fun a hf => ?_
          refine o_skip hf (g := 24) rfl rfl rfl rfl rfl rfl fun a hf => ?_
          refine o_skip hf (g := 24) rfl rfl rfl rfl rfl rfl fun a hf => ?_
          refine o_skip hf (g := 24) rfl rfl rfl rfl rfl rfl fun a hf => ?_
          refine o_run hf (r_pickF hf rfl rfl) rfl fun a hf => ?_
          refine o_run hf (r_move hf rfl) rfl fun a hf => ?_
          refine o_skip hf (g := 31) rfl rfl rfl rfl rfl rfl fun a hf => ?_
          refine o_skip hf (g := 31) rfl rfl rfl rfl rfl rfl fun a hf => ?_
          refine o_skip hf (g := 31) rfl rfl rfl rfl rfl rfl fun a hf => ?_
          refine o_skip hf (g := 31) rfl rfl rfl rfl rfl rfl fun a hf => ?_
          refine o_skip hf (g := 31) rfl rfl rfl rfl rfl rfl fun a hf => ?_
          refine o_run hf (r_pickF hf rfl rfl) rfl fun a hf => ?_
          refine o_run hf (r_move hf rfl) rfl fun a hf => ?_
          refine o_skip hf (g := 38) rfl rfl rfl rfl rfl rfl fun a hf => ?_
          refine o_skip hf (g := 38) rfl rfl rfl rfl rfl rfl fun a hf => ?_
          refine o_skip hf (g := 38) rfl rfl rfl rfl rfl rfl fun a hf => ?_
          refine o_skip hf (g := 38) rfl rfl rfl rfl rfl rfl fun a hf => ?_
          refine o_skip hf (g := 38) rfl rfl rfl rfl rfl rfl fun a hf => ?_
          refine o_run hf (r_pickF hf rfl rfl) rfl fun a hf => ?_
          refine o_run hf (r_assign hf rfl) rfl fun a hf => ?_
          refine o_nil ?_
          refine c_then ?_
          have ho := out_inj hp
          subst ho
          exact ⟨false, rfl, hw, hf.to ⟨rfl, trivial⟩⟩
      · replace hp := cond_f hb33 hp
        refine o_skip hf (g := 17) rfl rfl rfl rfl rfl rfl fun a hf => ?_
        refine o_skip hf (g := 17) rfl rfl rfl rfl rfl rfl fun a hf => ?_
        refine o_skip hf (g := 17) rfl rfl rfl rfl rfl rfl fun a hf => ?_
        refine o_skip hf (g := 17) rfl rfl rfl rfl rfl rfl fun a hf => ?_
        refine o_skip hf (g := 17) rfl rfl rfl rfl rfl rfl fun a hf => ?_
        refine o_run hf (r_pickF hf rfl rfl) rfl fun a hf => ?_
        refine o_run hf (r_move hf rfl) rfl fun a hf => ?_
        refine o_skip hf (g := 24) rfl rfl rfl rfl rfl rfl fun a hf => ?_
        refine o_skip hf (g := 24) rfl rfl rfl rfl rfl rfl fun a hf => ?_
        refine o_skip hf (g := 24) rfl rfl rfl rfl rfl rfl fun a hf => ?_
        refine o_skip hf (g := 24) rfl rfl rfl rfl rfl rfl fun a hf => ?_
        refine o_skip hf (g := 24) rfl rfl rfl rfl rfl rfl fun a hf => ?_
        refine o_run hf (r_pickF hf rfl rfl) rfl fun a hf => ?_
        refine o_run hf (r_move hf rfl) rfl fun a hf => ?_
        refine o_skip hf (g := 31) rfl rfl rfl rfl rfl rfl fun a hf => ?_
        refine o_skip hf (g := 31) rfl rfl rfl rfl rfl rfl fun a hf => ?_
        refine o_skip hf (g := 31) rfl rfl rfl rfl rfl rfl fun a hf => ?_
        refine o_skip hf (g := 31) rfl rfl rfl rfl rfl rfl fun a hf => ?_
        refine o_skip hf (g := 31) rfl rfl rfl rfl rfl rfl fun a hf => ?_
        refine o_run hf (r_pickF hf rfl rfl) rfl fun a hf => ?_
        refine o_run hf (r_move hf rfl) rfl fun a hf => ?_
        refine o_skip hf (g := 38) rfl rfl rfl rfl rfl rfl fun a hf => ?_
        refine o_skip hf (g := 38) rfl rfl rfl rfl rfl rfl fun a hf => ?_
        refine o_skip hf (g := 38) rfl rfl rfl rfl rfl rfl fun a hf => ?_
        refine o_skip hf (g := 38) rfl rfl rfl rfl rfl rfl fun a hf => ?_
        refine o_skip hf (g := 38) rfl rfl rfl rfl rfl rfl fun a hf => ?_
        refine o_run hf (r_pickF hf rfl rfl) rfl fun a hf => ?_
        refine o_run hf (r_assign hf rfl) rfl fun a hf => ?_
        refine o_nil ?_
        refine c_then ?_
        have ho := out_inj hp
        subst ho
        exact ⟨false, rfl, hw, hf.to ⟨rfl, trivial⟩⟩
    · replace hp := cond_f hb32 hp
      refine o_skip hf (g := 10) rfl rfl rfl rfl rfl rfl fun a hf => ?_
      refine o_skip hf (g := 10) rfl rfl rfl rfl rfl rfl fun a hf => ?_
      refine o_skip hf (g := 10) rfl rfl rfl rfl rfl rfl fun a hf => ?_
      refine o_skip hf (g := 10) rfl rfl rfl rfl rfl rfl fun a hf => ?_
      refine o_skip hf (g := 10) rfl rfl rfl rfl rfl rfl fun a hf => ?_
      refine o_run hf (r_pickF hf rfl rfl) rfl fun a hf => ?_
      refine o_run hf (r_move hf rfl) rfl fun a hf => ?_
      refine o_skip hf (g := 17) rfl rfl rfl rfl rfl rfl fun a hf => ?_
      refine o_skip hf (g := 17) rfl rfl rfl rfl rfl rfl fun a hf => ?_
      refine o_skip hf (g := 17) rfl rfl rfl rfl rfl rfl fun a hf => ?_
      refine o_skip hf (g := 17) rfl rfl rfl rfl rfl rfl fun a hf => ?_
      refine o_skip hf (g := 17) rfl rfl rfl rfl rfl rfl fun a hf => ?_
      refine o_run hf (r_pickF hf rfl rfl) rfl fun a hf => ?_
      refine o_run hf (r_move hf rfl) rfl fun a hf => ?_
      refine o_skip hf (g := 24) rfl rfl rfl rfl rfl rfl fun a hf => ?_
      refine o_skip hf (g := 24) rfl rfl rfl rfl rfl rfl fun a hf => ?_
      refine o_skip hf (g := 24) rfl rfl rfl rfl rfl rfl fun a hf => ?_
      refine o_skip hf (g := 24) rfl rfl rfl rfl rfl rfl fun a hf => ?_
      refine o_skip hf (g := 24) rfl rfl rfl rfl rfl rfl fun a hf => ?_
      refine o_run hf (r_pickF hf rfl rfl) rfl fun a hf => ?_
      refine o_run hf (r_move hf rfl) rfl fun a hf => ?_
      refine o_skip hf (g := 31) rfl rfl rfl rfl rfl rfl fun a hf => ?_
      refine o_skip hf (g := 31) rfl rfl rfl rfl rfl rfl fun a hf => ?_
      refine o_skip hf (g := 31) rfl rfl rfl rfl rfl rfl fun a hf => ?_
      refine o_skip hf (g := 31) rfl rfl rfl rfl rfl rfl fun a hf => ?_
      refine o_skip hf (g := 31) rfl rfl rfl rfl rfl rfl fun a hf => ?_
      refine o_run hf (r_pickF hf rfl rfl) rfl fun a hf => ?_
      refine o_run hf (r_move hf rfl) rfl fun a hf => ?_
      refine o_skip hf (g := 38) rfl rfl rfl rfl rfl rfl fun a hf => ?_
      refine o_skip hf (g := 38) rfl rfl rfl rfl rfl rfl fun a hf => ?_
      refine o_skip hf (g := 38) rfl rfl rfl rfl rfl rfl fun a hf => ?_
      refine o_skip hf (g := 38) rfl rfl rfl rfl rfl rfl fun a hf => ?_
      refine o_skip hf (g := 38) rfl rfl rfl rfl rfl rfl fun a hf => ?_
      refine o_run hf (r_pickF hf rfl rfl) rfl fun a hf => ?_
      refine o_run hf (r_assign hf rfl) rfl fun a hf => ?_
      refine o_nil ?_
      refine c_then ?_
      have ho := out_inj hp
      subst ho
      exact ⟨false, rfl, hw, hf.to ⟨rfl, trivial⟩⟩
  · intro a w hM
    obtain ⟨y29, rfl, hw, hf⟩ := hM
    replace hp := hq31
    refine wp_ret ?_
    replace hw : Ok E I (F) w := hw.sub (List.Sublist.cons _ (List.Sublist.cons _ (List.Sublist.refl _)))
    have ho := out_inj hp
    subst ho
    exact b_ret1 hf Go.Proofs.Tryd.results20 rfl ⟨_, rfl, ⟨rfl, hw⟩⟩
end Go.Lf
