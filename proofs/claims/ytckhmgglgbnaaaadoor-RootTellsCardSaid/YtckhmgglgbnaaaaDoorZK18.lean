/- The Go functions compute the plain Lean functions (printed by our lift.py). -/
import Derived.Test.YtckhmgglgbnaaaaDoorZD
import Derived.Test.YtckhmgglgbnaaaaDoorZF
import Derived.Test.YtckhmgglgbnaaaaDoorJ
import Derived.Test.YtckhmgglgbnaaaaDoorZK17
set_option linter.unusedVariables false
set_option linter.unusedSimpArgs false
set_option maxHeartbeats 1000000
set_option maxRecDepth 20000
namespace Go.Lf
open Go
theorem keep_Item_ok {E : World} {I : IH} {F : List Atom} {w : World} {a0 : Item} {a0v37 : Value} {a1 : Item} {a1v39 : Value} {res0 : Bool} (hw : Ok E I (F) w) (hG : Gl I) (hR38 : RS ekS I a0v37 a0.hashes_) (hR40 : RS ekS I a1v39 a1.hashes_) (hp : keep_Item.f a0 a1 = some res0) :
  Calls P 20 ⟨[Value.agg ⟨[Value.int .i64 a0.kind_, Value.string a0.path_, Value.bool a0.has_, Value.string a0.value_, Value.int .i64 a0.mask_, a0v37]⟩, Value.agg ⟨[Value.int .i64 a1.kind_, Value.string a1.path_, Value.bool a1.has_, Value.string a1.value_, Value.int .i64 a1.mask_, a1v39]⟩]⟩ w fun e w' => ∃ v, e = .returned v ∧ v = Value.bool res0 ∧ Ok E I (F) w' := by
 refine c_enter Go.Proofs.Tryd.func20 rfl Go.Proofs.Tryd.ntmps20 rfl fun a hf => ?_
 replace hf : Fr 45 [(0, Value.agg ⟨[.int .i64 a0.kind_, .string a0.path_, .bool a0.has_, .string a0.value_, .int .i64 a0.mask_, a0v37]⟩), (1, Value.agg ⟨[.int .i64 a1.kind_, .string a1.path_, .bool a1.has_, .string a1.value_, .int .i64 a1.mask_, a1v39]⟩)] a := hf
 unfold keep_Item.f at hp
 refine wq <| wr ?_
 obtain ⟨b1, w, hrun2, hw⟩ := e_box (P := P) hw hf (e := 32) (x := .tmp 0) rfl (cs := [Value.int .i64 a0.kind_, Value.string a0.path_, Value.bool a0.has_, Value.string a0.value_, Value.int .i64 a0.mask_, a0v37]) rfl
 refine o_eff hf (hrun2 ..) rfl fun a hf => ?_
 obtain ⟨b4, w, hrun5, hw⟩ := e_box (P := P) hw hf (e := 32) (x := .tmp 1) rfl (cs := [Value.int .i64 a1.kind_, Value.string a1.path_, Value.bool a1.has_, Value.string a1.value_, Value.int .i64 a1.mask_, a1v39]) rfl
 refine o_eff hf (hrun5 ..) rfl fun a hf => oa hf rfl rfl fun a hf => oN <| ct ?_
 obtain ⟨out30, hp, hq31⟩ := bS hp
 refine c_cut (fun a w => ∃ y29 : Bool, y29 = out30 ∧ Ok E I (.blk b4 (.cells ⟨[.int .i64 a1.kind_, .string a1.path_, .bool a1.has_, .string a1.value_, .int .i64 a1.mask_, a1v39]⟩ 32 (0, 0)) :: .blk b1 (.cells ⟨[.int .i64 a0.kind_, .string a0.path_, .bool a0.has_, .string a0.value_, .int .i64 a0.mask_, a0v37]⟩ 32 (0, 0)) :: F) w ∧ Fr 45 ([(4, .bool y29)]) a) ?_ ?_
 ·refine wr <| oR hf (rF hf rfl fd_32_0) rfl fun a hf => oR hf (rL hw hf rfl ty_3 1 rfl rfl) rfl fun a hf => oR hf (rF hf rfl fd_32_0) rfl fun a hf => oR hf (rL hw hf rfl ty_3 0 rfl rfl) rfl fun a hf => oR hf (iC hf rfl rfl rfl) rfl fun a hf => om hf rfl rfl fun a hf => g_split hf (g := 10) rfl (fun hb32 hf => ?_) (fun hb32 hf => ?_)
  ·replace hp := cond_t hb32 hp
   refine oW hf (g := 10) rfl rfl <| oR hf (rF hf rfl fd_32_1) rfl fun a hf => oW hf (g := 10) rfl rfl <| oR hf (rL hw hf rfl ty_9 1 rfl rfl) rfl fun a hf => oW hf (g := 10) rfl rfl <| oR hf (rF hf rfl fd_32_1) rfl fun a hf => oW hf (g := 10) rfl rfl <| oR hf (rL hw hf rfl ty_9 0 rfl rfl) rfl fun a hf => oW hf (g := 10) rfl rfl <| oR hf (r_scmp hf rfl rfl rfl) rfl fun a hf => oR hf (pT hf rfl rfl) rfl fun a hf => om hf rfl rfl fun a hf => g_split hf (g := 17) rfl (fun hb33 hf => ?_) (fun hb33 hf => ?_)
   ·replace hp := cond_t hb33 hp
    refine oW hf (g := 17) rfl rfl <| oR hf (rF hf rfl fd_32_2) rfl fun a hf => oW hf (g := 17) rfl rfl <| oR hf (rL hw hf rfl ty_4 1 rfl rfl) rfl fun a hf => oW hf (g := 17) rfl rfl <| oR hf (rF hf rfl fd_32_2) rfl fun a hf => oW hf (g := 17) rfl rfl <| oR hf (rL hw hf rfl ty_4 0 rfl rfl) rfl fun a hf => oW hf (g := 17) rfl rfl <| oR hf (r_beq hf und_4 rfl rfl) rfl fun a hf => oR hf (pT hf rfl rfl) rfl fun a hf => om hf rfl rfl fun a hf => g_split hf (g := 24) rfl (fun hb34 hf => ?_) (fun hb34 hf => ?_)
    ·replace hp := cond_t hb34 hp
     refine oW hf (g := 24) rfl rfl <| oR hf (rF hf rfl fd_32_3) rfl fun a hf => oW hf (g := 24) rfl rfl <| oR hf (rL hw hf rfl ty_9 1 rfl rfl) rfl fun a hf => oW hf (g := 24) rfl rfl <| oR hf (rF hf rfl fd_32_3) rfl fun a hf => oW hf (g := 24) rfl rfl <| oR hf (rL hw hf rfl ty_9 0 rfl rfl) rfl fun a hf => oW hf (g := 24) rfl rfl <| oR hf (r_scmp hf rfl rfl rfl) rfl fun a hf => oR hf (pT hf rfl rfl) rfl fun a hf => om hf rfl rfl fun a hf => g_split hf (g := 31) rfl (fun hb35 hf => ?_) (fun hb35 hf => ?_)
     ·replace hp := cond_t hb35 hp
      refine oW hf (g := 31) rfl rfl <| oR hf (rF hf rfl fd_32_4) rfl fun a hf => oW hf (g := 31) rfl rfl <| oR hf (rL hw hf rfl ty_3 1 rfl rfl) rfl fun a hf => oW hf (g := 31) rfl rfl <| oR hf (rF hf rfl fd_32_4) rfl fun a hf => oW hf (g := 31) rfl rfl <| oR hf (rL hw hf rfl ty_3 0 rfl rfl) rfl fun a hf => oW hf (g := 31) rfl rfl <| oR hf (iC hf rfl rfl rfl) rfl fun a hf => oR hf (pT hf rfl rfl) rfl fun a hf => om hf rfl rfl fun a hf => g_split hf (g := 38) rfl (fun hb36 hf => ?_) (fun hb36 hf => ?_)
      ·replace hp := cond_t hb36 hp
       refine oW hf (g := 38) rfl rfl <| oR hf (rF hf rfl fd_32_5) rfl fun a hf => oW hf (g := 38) rfl rfl <| oR hf (rL hw hf rfl ty_28 1 rfl rfl) rfl fun a hf => oW hf (g := 38) rfl rfl <| oR hf (rF hf rfl fd_32_5) rfl fun a hf => oW hf (g := 38) rfl rfl <| oR hf (rL hw hf rfl ty_28 0 rfl rfl) rfl fun a hf => oW hf (g := 38) rfl rfl ?_
       obtain ⟨y37, hy38, hp⟩ := bS hp
       have hc40 := keep_Texts_ok hw hG hR38 hR40 hy38
       refine o_call hf cb_19 rfl rfl hc40 (fun v42 w a hK41 hf => ?_)
       obtain ⟨rfl, hw⟩ := hK41
       refine oR hf (pT hf rfl rfl) rfl fun a hf => oa hf rfl rfl fun a hf => oN <| ct ?_
       have ho := oI hp
       subst ho
       exact ⟨y37, rfl, hw, hf.to ⟨rfl, trivial⟩⟩
      ·replace hp := cond_f hb36 hp
       refine oS hf (g := 38) rfl rfl rfl rfl rfl rfl fun a hf => oS hf (g := 38) rfl rfl rfl rfl rfl rfl fun a hf => oS hf (g := 38) rfl rfl rfl rfl rfl rfl fun a hf => oS hf (g := 38) rfl rfl rfl rfl rfl rfl fun a hf => oS hf (g := 38) rfl rfl rfl rfl rfl rfl fun a hf => oR hf (pF hf rfl rfl) rfl fun a hf => oa hf rfl rfl fun a hf => oN <| ct ?_
       have ho := oI hp
       subst ho
       exact ⟨false, rfl, hw, hf.to ⟨rfl, trivial⟩⟩
     ·replace hp := cond_f hb35 hp
      refine oS hf (g := 31) rfl rfl rfl rfl rfl rfl fun a hf => oS hf (g := 31) rfl rfl rfl rfl rfl rfl fun a hf => oS hf (g := 31) rfl rfl rfl rfl rfl rfl fun a hf => oS hf (g := 31) rfl rfl rfl rfl rfl rfl fun a hf => oS hf (g := 31) rfl rfl rfl rfl rfl rfl fun a hf => oR hf (pF hf rfl rfl) rfl fun a hf => om hf rfl rfl fun a hf => oS hf (g := 38) rfl rfl rfl rfl rfl rfl fun a hf => oS hf (g := 38) rfl rfl rfl rfl rfl rfl fun a hf => oS hf (g := 38) rfl rfl rfl rfl rfl rfl fun a hf => oS hf (g := 38) rfl rfl rfl rfl rfl rfl fun a hf => oS hf (g := 38) rfl rfl rfl rfl rfl rfl fun a hf => oR hf (pF hf rfl rfl) rfl fun a hf => oa hf rfl rfl fun a hf => oN <| ct ?_
      have ho := oI hp
      subst ho
      exact ⟨false, rfl, hw, hf.to ⟨rfl, trivial⟩⟩
    ·replace hp := cond_f hb34 hp
     refine oS hf (g := 24) rfl rfl rfl rfl rfl rfl fun a hf => oS hf (g := 24) rfl rfl rfl rfl rfl rfl fun a hf => oS hf (g := 24) rfl rfl rfl rfl rfl rfl fun a hf => oS hf (g := 24) rfl rfl rfl rfl rfl rfl fun a hf => oS hf (g := 24) rfl rfl rfl rfl rfl rfl fun a hf => oR hf (pF hf rfl rfl) rfl fun a hf => om hf rfl rfl fun a hf => oS hf (g := 31) rfl rfl rfl rfl rfl rfl fun a hf => oS hf (g := 31) rfl rfl rfl rfl rfl rfl fun a hf => oS hf (g := 31) rfl rfl rfl rfl rfl rfl fun a hf => oS hf (g := 31) rfl rfl rfl rfl rfl rfl fun a hf => oS hf (g := 31) rfl rfl rfl rfl rfl rfl fun a hf => oR hf (pF hf rfl rfl) rfl fun a hf => om hf rfl rfl fun a hf => oS hf (g := 38) rfl rfl rfl rfl rfl rfl fun a hf => oS hf (g := 38) rfl rfl rfl rfl rfl rfl fun a hf => ?_
     refine oS hf (g := 38) rfl rfl rfl rfl rfl rfl fun a hf => oS hf (g := 38) rfl rfl rfl rfl rfl rfl fun a hf => oS hf (g := 38) rfl rfl rfl rfl rfl rfl fun a hf => oR hf (pF hf rfl rfl) rfl fun a hf => oa hf rfl rfl fun a hf => oN <| ct ?_
     have ho := oI hp
     subst ho
     exact ⟨false, rfl, hw, hf.to ⟨rfl, trivial⟩⟩
   ·replace hp := cond_f hb33 hp
    refine oS hf (g := 17) rfl rfl rfl rfl rfl rfl fun a hf => oS hf (g := 17) rfl rfl rfl rfl rfl rfl fun a hf => oS hf (g := 17) rfl rfl rfl rfl rfl rfl fun a hf => oS hf (g := 17) rfl rfl rfl rfl rfl rfl fun a hf => oS hf (g := 17) rfl rfl rfl rfl rfl rfl fun a hf => oR hf (pF hf rfl rfl) rfl fun a hf => om hf rfl rfl fun a hf => oS hf (g := 24) rfl rfl rfl rfl rfl rfl fun a hf => oS hf (g := 24) rfl rfl rfl rfl rfl rfl fun a hf => oS hf (g := 24) rfl rfl rfl rfl rfl rfl fun a hf => oS hf (g := 24) rfl rfl rfl rfl rfl rfl fun a hf => oS hf (g := 24) rfl rfl rfl rfl rfl rfl fun a hf => oR hf (pF hf rfl rfl) rfl fun a hf => om hf rfl rfl fun a hf => oS hf (g := 31) rfl rfl rfl rfl rfl rfl fun a hf => oS hf (g := 31) rfl rfl rfl rfl rfl rfl fun a hf => ?_
    refine oS hf (g := 31) rfl rfl rfl rfl rfl rfl fun a hf => oS hf (g := 31) rfl rfl rfl rfl rfl rfl fun a hf => oS hf (g := 31) rfl rfl rfl rfl rfl rfl fun a hf => oR hf (pF hf rfl rfl) rfl fun a hf => om hf rfl rfl fun a hf => oS hf (g := 38) rfl rfl rfl rfl rfl rfl fun a hf => oS hf (g := 38) rfl rfl rfl rfl rfl rfl fun a hf => oS hf (g := 38) rfl rfl rfl rfl rfl rfl fun a hf => oS hf (g := 38) rfl rfl rfl rfl rfl rfl fun a hf => oS hf (g := 38) rfl rfl rfl rfl rfl rfl fun a hf => oR hf (pF hf rfl rfl) rfl fun a hf => oa hf rfl rfl fun a hf => oN <| ct ?_
    have ho := oI hp
    subst ho
    exact ⟨false, rfl, hw, hf.to ⟨rfl, trivial⟩⟩
  ·replace hp := cond_f hb32 hp
   refine oS hf (g := 10) rfl rfl rfl rfl rfl rfl fun a hf => oS hf (g := 10) rfl rfl rfl rfl rfl rfl fun a hf => oS hf (g := 10) rfl rfl rfl rfl rfl rfl fun a hf => oS hf (g := 10) rfl rfl rfl rfl rfl rfl fun a hf => oS hf (g := 10) rfl rfl rfl rfl rfl rfl fun a hf => oR hf (pF hf rfl rfl) rfl fun a hf => om hf rfl rfl fun a hf => oS hf (g := 17) rfl rfl rfl rfl rfl rfl fun a hf => oS hf (g := 17) rfl rfl rfl rfl rfl rfl fun a hf => oS hf (g := 17) rfl rfl rfl rfl rfl rfl fun a hf => oS hf (g := 17) rfl rfl rfl rfl rfl rfl fun a hf => oS hf (g := 17) rfl rfl rfl rfl rfl rfl fun a hf => oR hf (pF hf rfl rfl) rfl fun a hf => om hf rfl rfl fun a hf => oS hf (g := 24) rfl rfl rfl rfl rfl rfl fun a hf => oS hf (g := 24) rfl rfl rfl rfl rfl rfl fun a hf => ?_
   refine oS hf (g := 24) rfl rfl rfl rfl rfl rfl fun a hf => oS hf (g := 24) rfl rfl rfl rfl rfl rfl fun a hf => oS hf (g := 24) rfl rfl rfl rfl rfl rfl fun a hf => oR hf (pF hf rfl rfl) rfl fun a hf => om hf rfl rfl fun a hf => oS hf (g := 31) rfl rfl rfl rfl rfl rfl fun a hf => oS hf (g := 31) rfl rfl rfl rfl rfl rfl fun a hf => oS hf (g := 31) rfl rfl rfl rfl rfl rfl fun a hf => oS hf (g := 31) rfl rfl rfl rfl rfl rfl fun a hf => oS hf (g := 31) rfl rfl rfl rfl rfl rfl fun a hf => oR hf (pF hf rfl rfl) rfl fun a hf => om hf rfl rfl fun a hf => oS hf (g := 38) rfl rfl rfl rfl rfl rfl fun a hf => oS hf (g := 38) rfl rfl rfl rfl rfl rfl fun a hf => oS hf (g := 38) rfl rfl rfl rfl rfl rfl fun a hf => oS hf (g := 38) rfl rfl rfl rfl rfl rfl fun a hf => ?_
   refine oS hf (g := 38) rfl rfl rfl rfl rfl rfl fun a hf => oR hf (pF hf rfl rfl) rfl fun a hf => oa hf rfl rfl fun a hf => oN <| ct ?_
   have ho := oI hp
   subst ho
   exact ⟨false, rfl, hw, hf.to ⟨rfl, trivial⟩⟩
 ·intro a w hM
  obtain ⟨y29, rfl, hw, hf⟩ := hM
  replace hp := hq31
  refine wp_ret ?_
  replace hw : Ok E I (F) w := hw.sub (sc (sc sr))
  have ho := oI hp
  subst ho
  exact b_ret1 hf Go.Proofs.Tryd.results20 rfl ⟨_, rfl, ⟨rfl, hw⟩⟩

theorem keep_Trie_ok {E : World} {I : IH} {F : List Atom} {w : World} {a0 : List Node} {a0v64 : Value} {a1 : List Node} {a1v66 : Value} {res0 : Bool} (hw : Ok E I (F) w) (hG : Gl I) (hR65 : RS ek_Node I a0v64 a0) (hR67 : RS ek_Node I a1v66 a1) (hp : keep_Trie.f a0 a1 = some res0) :
  Calls P 23 ⟨[a0v64, a1v66]⟩ w fun e w' => ∃ v, e = .returned v ∧ v = Value.bool res0 ∧ Ok E I (F) w' := by
 refine c_enter Go.Proofs.Tryd.func23 rfl Go.Proofs.Tryd.ntmps23 rfl fun a hf => ?_
 replace hf : Fr 26 [(0, a0v64), (1, a1v66)] a := hf
 unfold keep_Trie.f at hp
 refine wq <| wr <| oa hf rfl rfl fun a hf => oN <| ct <| wq <| wq <| wr <| om hf rfl rfl fun a hf => oR hf (r_lenL (K := ek_Node) hf el_23 rfl (hR65.rd hw)) rfl fun a hf => om hf rfl rfl fun a hf => oR hf (r_lenL (K := ek_Node) hf el_23 rfl (hR67.rd hw)) rfl fun a hf => oR hf (iC hf rfl rfl rfl) rfl fun a hf => oN <| ct <| cC hf rfl (fun hb1 => ?_) (fun hb1 => ?_)
 ·replace hp := cond_t hb1 hp
  refine wq <| wr <| oa hf rfl rfl fun a hf => oN <| ct <| wp_ret <| c_thenR ?_
  have ho := oI hp
  subst ho
  exact b_ret1 hf Go.Proofs.Tryd.results23 rfl ⟨_, rfl, ⟨rfl, hw⟩⟩
 ·replace hp := cond_f hb1 hp
  refine wp_skip <| ct <| wq <| wq <| wr <| oa hf rfl rfl fun a hf => oN <| ct ?_
  obtain ⟨out19, hp, hq20⟩ := bS hp
  refine c_cutX (fun a w => (.inl ()) = out19 ∧ Ok E I (F) w ∧ Fr 26 ([]) a) ?_ ?_
  ·refine wp_block <| c_loop <| c_fuel (keep_Trie.l0 a0 a1) out19 (fun (y13 : Int) a w => Ok E I (F) w ∧ Fr 26 ([(0, a0v64), (1, a1v66), (5, .int .i64 y13)]) a) (fun _ => rfl) ?_ BIG 0 _ _ ⟨hw, hf.to ⟨rfl, rfl, rfl, trivial⟩⟩ hp
   intro k y13 a w hI hp ih
   obtain ⟨hw, hf⟩ := hI
   rw [keep_Trie.l0] at hp
   refine wq <| wq <| wr <| om hf rfl rfl fun a hf => om hf rfl rfl fun a hf => oR hf (r_lenL (K := ek_Node) hf el_23 rfl (hR65.rd hw)) rfl fun a hf => oR hf (iC hf rfl rfl rfl) rfl fun a hf => oN <| ct <| cC hf rfl (fun hb22 => ?_) (fun hb22 => ?_)
   ·replace hp := cond_t hb22 hp
    refine wp_skip <| ct <| wq <| wp_block <| wq <| c_drawn mix [] (.rd 0 (.rd 1 (.rd 2 (.rd 3 (.rd 4 (.rd 5 (.rd 6 (.rd 7 (.rd 8 .done))))))))) (by kernel_rfl) hw (fun w => Ok E I (F) w) (fun w hw => ⟨hw.sub sr, ?_⟩)
    refine tm rfl hf rfl rfl fun a hf => tm rfl hf rfl rfl fun a hf => ?_
    obtain ⟨hg24, hp⟩ := gS hp
    refine tR rfl hf (fun w hw => rI (K := ek_Node) hf el_23 rfl rfl (hR65.rd hw) hg24) rfl fun a hf => tR rfl hf (fun w hw => r_loadHP (K := ek_Node) hf rfl ty_55 (hR65.rd hw) hg24 rfl (vs := (Value.int .i64 ((gt a0 y13).kind_) :: Value.string ((gt a0 y13).path_) :: Value.bool ((gt a0 y13).has_) :: Value.string ((gt a0 y13).value_) :: arrC .i64 ((gt a0 y13).kids_))) (fun cs h => Node_all h) (by simp [arrC_len])) rfl fun a hf => tm rfl hf rfl rfl fun a hf => tm rfl hf rfl rfl fun a hf => ?_
    obtain ⟨hg25, hp⟩ := gS hp
    refine tR rfl hf (fun w hw => rI (K := ek_Node) hf el_23 rfl rfl (hR67.rd hw) hg25) rfl fun a hf => tR rfl hf (fun w hw => r_loadHP (K := ek_Node) hf rfl ty_55 (hR67.rd hw) hg25 rfl (vs := (Value.int .i64 ((gt a1 y13).kind_) :: Value.string ((gt a1 y13).path_) :: Value.bool ((gt a1 y13).has_) :: Value.string ((gt a1 y13).value_) :: arrC .i64 ((gt a1 y13).kids_))) (fun cs h => Node_all h) (by simp [arrC_len])) rfl fun a hf => tR rfl hf (fun w hw => r_neq_Node hf (x := (gt a0 y13)) (y := (gt a1 y13)) rfl rfl) rfl fun a hf => t_done <| ct <| cC hf rfl (fun hb26 => ?_) (fun hb26 => ?_)
    ·replace hp := cond_t hb26 hp
     refine wq <| wr <| oa hf rfl rfl fun a hf => oN <| ct <| wp_ret <| c_blockR <| c_thenR <| c_thenR <| c_blockR <| c_thenR ?_
     have ho := oI hp
     subst ho
     replace hp := hq20
     refine c_thenR ?_
     have ho := oI hp
     subst ho
     exact b_ret1 hf Go.Proofs.Tryd.results23 rfl ⟨_, rfl, ⟨rfl, hw⟩⟩
    ·replace hp := cond_f hb26 hp
     refine wp_skip <| c_blockN <| ct <| wr <| om hf rfl rfl fun a hf => oR hf (r_add hf rfl rfl) rfl fun a hf => oa hf rfl rfl fun a hf => oN <| ct ?_
     exact ih (w64 (y13 + 1)) _ _ ⟨hw, hf.to ⟨rfl, rfl, rfl, trivial⟩⟩ hp
   ·replace hp := cond_f hb22 hp
    refine wp_exit <| c_thenE <| c_thenE <| c_exit <| ct ?_
    have ho := oI hp
    subst ho
    exact ⟨rfl, hw, hf.to trivial⟩
  ·intro a w hM
   obtain ⟨rfl, hw, hf⟩ := hM
   replace hp := hq20
   refine ct <| wq <| wr <| oa hf rfl rfl fun a hf => oN <| ct <| wp_ret ?_
   have ho := oI hp
   subst ho
   exact b_ret1 hf Go.Proofs.Tryd.results23 rfl ⟨_, rfl, ⟨rfl, hw⟩⟩
end Go.Lf
