/- The Go functions compute the plain Lean functions (printed by our lift.py). -/
import Derived.Test.YtckhmgglgbnaaaaDoorZD
import Derived.Test.YtckhmgglgbnaaaaDoorZF
import Derived.Test.YtckhmgglgbnaaaaDoorJ
import Derived.Test.YtckhmgglgbnaaaaDoorZK2
import Derived.Test.YtckhmgglgbnaaaaDoorZK6
set_option linter.unusedVariables false
set_option linter.unusedSimpArgs false
set_option maxHeartbeats 1000000
set_option maxRecDepth 20000
namespace Go.Lf
open Go
theorem nibble_Good_ok {E : World} {I : IH} {F : List Atom} {w : World} {a0 : ByteArray} {res0 : Bool} (hw : Ok E I (F) w) (hG : Gl I) (hp : nibble_Good.f a0 = some res0) :
  Calls P 55 ⟨[Value.string a0]⟩ w fun e w' => ∃ v, e = .returned v ∧ v = Value.bool res0 ∧ Ok E I (F) w' := by
 refine c_enter Go.Proofs.Tryd.func55 rfl Go.Proofs.Tryd.ntmps55 rfl fun a hf => ?_
 replace hf : Fr 10 [(0, .string a0)] a := hf
 unfold nibble_Good.f at hp
 refine wq <| wr <| oa hf rfl rfl fun a hf => oN <| ct ?_
 obtain ⟨out16, hp, hq17⟩ := bS hp
 refine c_cut (fun a w => ∃ y15 : Bool, y15 = out16 ∧ Ok E I (F) w ∧ Fr 10 ([(2, .bool y15)]) a) ?_ ?_
 ·refine wr <| om hf rfl rfl fun a hf => oR hf (r_lenS hf und_9 rfl) rfl fun a hf => oR hf (iC hf rfl rfl rfl) rfl fun a hf => om hf rfl rfl fun a hf => g_split hf (g := 6) rfl (fun hb18 hf => ?_) (fun hb18 hf => ?_)
  ·replace hp := cond_t hb18 hp
   refine oW hf (g := 6) rfl rfl <| om hf rfl rfl fun a hf => oW hf (g := 6) rfl rfl ?_
   obtain ⟨y19, hy20, hp⟩ := bS hp
   have hc22 := nibble_small_ok hw hG hy20
   refine o_call hf cb_77 rfl rfl hc22 (fun v24 w a hK23 hf => ?_)
   obtain ⟨rfl, hw⟩ := hK23
   refine oR hf (pT hf rfl rfl) rfl fun a hf => oa hf rfl rfl fun a hf => oN <| ct ?_
   have ho := oI hp
   subst ho
   exact ⟨y19, rfl, hw, hf.to ⟨rfl, trivial⟩⟩
  ·replace hp := cond_f hb18 hp
   refine oS hf (g := 6) rfl rfl rfl rfl rfl rfl fun a hf => oS hf (g := 6) rfl rfl rfl rfl rfl rfl fun a hf => oR hf (pF hf rfl rfl) rfl fun a hf => oa hf rfl rfl fun a hf => oN <| ct ?_
   have ho := oI hp
   subst ho
   exact ⟨false, rfl, hw, hf.to ⟨rfl, trivial⟩⟩
 ·intro a w hM
  obtain ⟨y15, rfl, hw, hf⟩ := hM
  replace hp := hq17
  refine wp_ret ?_
  have ho := oI hp
  subst ho
  exact b_ret1 hf Go.Proofs.Tryd.results55 rfl ⟨_, rfl, ⟨rfl, hw⟩⟩

theorem node_Good_ok {E : World} {I : IH} {F : List Atom} {w : World} {a0 : Item} {a0v4 : Value} {res0 : Bool} (hw : Ok E I (F) w) (hG : Gl I) (hR5 : RS ekS I a0v4 a0.hashes_) (hp : node_Good.f a0 = some res0) :
  Calls P 30 ⟨[Value.agg ⟨[Value.int .i64 a0.kind_, Value.string a0.path_, Value.bool a0.has_, Value.string a0.value_, Value.int .i64 a0.mask_, a0v4]⟩]⟩ w fun e w' => ∃ v, e = .returned v ∧ v = Value.bool res0 ∧ Ok E I (F) w' := by
 refine c_enter Go.Proofs.Tryd.func30 rfl Go.Proofs.Tryd.ntmps30 rfl fun a hf => ?_
 replace hf : Fr 94 [(0, Value.agg ⟨[.int .i64 a0.kind_, .string a0.path_, .bool a0.has_, .string a0.value_, .int .i64 a0.mask_, a0v4]⟩)] a := hf
 unfold node_Good.f at hp
 refine wq <| wr ?_
 obtain ⟨b1, w, hrun2, hw⟩ := e_box (P := P) hw hf (e := 32) (x := .tmp 0) rfl (cs := [Value.int .i64 a0.kind_, Value.string a0.path_, Value.bool a0.has_, Value.string a0.value_, Value.int .i64 a0.mask_, a0v4]) rfl
 refine o_eff hf (hrun2 ..) rfl fun a hf => oa hf rfl rfl fun a hf => oN <| ct <| wq ?_
 obtain ⟨out138, hp, hq139⟩ := bS hp
 refine c_cut (fun a w => ∃ y137 : Bool, y137 = out138 ∧ Ok E I (.blk b1 (.cells ⟨[.int .i64 a0.kind_, .string a0.path_, .bool a0.has_, .string a0.value_, .int .i64 a0.mask_, a0v4]⟩ 32 (0, 0)) :: F) w ∧ Fr 94 ([(1, .pointer (some ⟨b1, 0, none⟩)), (38, .bool y137)]) a) ?_ ?_
 ·refine wr <| oR hf (rF hf rfl fd_32_4) rfl fun a hf => oR hf (rL hw hf rfl ty_3 0 rfl rfl) rfl fun a hf => oR hf (iC hf rfl rfl rfl) rfl fun a hf => om hf rfl rfl fun a hf => g_split hf (g := 7) rfl (fun hb140 hf => ?_) (fun hb140 hf => ?_)
  ·replace hp := cond_t hb140 hp
   refine oS hf (g := 7) rfl rfl rfl rfl rfl rfl fun a hf => oS hf (g := 7) rfl rfl rfl rfl rfl rfl fun a hf => oS hf (g := 7) rfl rfl rfl rfl rfl rfl fun a hf => oR hf (pT hf rfl rfl) rfl fun a hf => om hf rfl rfl fun a hf => oS hf (g := 12) rfl rfl rfl rfl rfl rfl fun a hf => oS hf (g := 12) rfl rfl rfl rfl rfl rfl fun a hf => oS hf (g := 12) rfl rfl rfl rfl rfl rfl fun a hf => oR hf (pT hf rfl rfl) rfl fun a hf => om hf rfl rfl fun a hf => oS hf (g := 17) rfl rfl rfl rfl rfl rfl fun a hf => oS hf (g := 17) rfl rfl rfl rfl rfl rfl fun a hf => oS hf (g := 17) rfl rfl rfl rfl rfl rfl fun a hf => oS hf (g := 17) rfl rfl rfl rfl rfl rfl fun a hf => oR hf (pT hf rfl rfl) rfl fun a hf => om hf rfl rfl fun a hf => ?_
   refine oS hf (g := 23) rfl rfl rfl rfl rfl rfl fun a hf => oS hf (g := 23) rfl rfl rfl rfl rfl rfl fun a hf => oS hf (g := 23) rfl rfl rfl rfl rfl rfl fun a hf => oS hf (g := 23) rfl rfl rfl rfl rfl rfl fun a hf => o_skipU hf (g := 27) rfl rfl rfl rfl rfl fun a hf => o_skipU hf (g := 27) rfl rfl rfl rfl rfl fun a hf => o_skipU hf (g := 27) rfl rfl rfl rfl rfl fun a hf => oS hf (g := 23) rfl rfl rfl rfl rfl rfl fun a hf => oR hf (pT hf rfl rfl) rfl fun a hf => om hf rfl rfl fun a hf => oS hf (g := 33) rfl rfl rfl rfl rfl rfl fun a hf => oS hf (g := 33) rfl rfl rfl rfl rfl rfl fun a hf => oS hf (g := 33) rfl rfl rfl rfl rfl rfl fun a hf => oS hf (g := 33) rfl rfl rfl rfl rfl rfl fun a hf => oR hf (pT hf rfl rfl) rfl fun a hf => oN ?_
   refine ct ?_
   have ho := oI hp
   subst ho
   exact ⟨true, rfl, hw, hf.to ⟨rfl, rfl, trivial⟩⟩
  ·replace hp := cond_f hb140 hp
   refine oW hf (g := 7) rfl rfl <| oR hf (rF hf rfl fd_32_4) rfl fun a hf => oW hf (g := 7) rfl rfl <| oR hf (rL hw hf rfl ty_3 0 rfl rfl) rfl fun a hf => oW hf (g := 7) rfl rfl <| oR hf (iC hf rfl rfl rfl) rfl fun a hf => oR hf (pF hf rfl rfl) rfl fun a hf => om hf rfl rfl fun a hf => g_split hf (g := 12) rfl (fun hb141 hf => ?_) (fun hb141 hf => ?_)
   ·replace hp := cond_t hb141 hp
    refine oS hf (g := 12) rfl rfl rfl rfl rfl rfl fun a hf => oS hf (g := 12) rfl rfl rfl rfl rfl rfl fun a hf => oS hf (g := 12) rfl rfl rfl rfl rfl rfl fun a hf => oR hf (pT hf rfl rfl) rfl fun a hf => om hf rfl rfl fun a hf => oS hf (g := 17) rfl rfl rfl rfl rfl rfl fun a hf => oS hf (g := 17) rfl rfl rfl rfl rfl rfl fun a hf => oS hf (g := 17) rfl rfl rfl rfl rfl rfl fun a hf => oS hf (g := 17) rfl rfl rfl rfl rfl rfl fun a hf => oR hf (pT hf rfl rfl) rfl fun a hf => om hf rfl rfl fun a hf => oS hf (g := 23) rfl rfl rfl rfl rfl rfl fun a hf => oS hf (g := 23) rfl rfl rfl rfl rfl rfl fun a hf => oS hf (g := 23) rfl rfl rfl rfl rfl rfl fun a hf => oS hf (g := 23) rfl rfl rfl rfl rfl rfl fun a hf => o_skipU hf (g := 27) rfl rfl rfl rfl rfl fun a hf => ?_
    refine o_skipU hf (g := 27) rfl rfl rfl rfl rfl fun a hf => o_skipU hf (g := 27) rfl rfl rfl rfl rfl fun a hf => oS hf (g := 23) rfl rfl rfl rfl rfl rfl fun a hf => oR hf (pT hf rfl rfl) rfl fun a hf => om hf rfl rfl fun a hf => oS hf (g := 33) rfl rfl rfl rfl rfl rfl fun a hf => oS hf (g := 33) rfl rfl rfl rfl rfl rfl fun a hf => oS hf (g := 33) rfl rfl rfl rfl rfl rfl fun a hf => oS hf (g := 33) rfl rfl rfl rfl rfl rfl fun a hf => oR hf (pT hf rfl rfl) rfl fun a hf => oN <| ct ?_
    have ho := oI hp
    subst ho
    exact ⟨true, rfl, hw, hf.to ⟨rfl, rfl, trivial⟩⟩
   ·replace hp := cond_f hb141 hp
    refine oW hf (g := 12) rfl rfl <| oR hf (r_loadA hw hf rfl ty_32 0 rfl (vs := [Value.int .i64 a0.kind_, Value.string a0.path_, Value.bool a0.has_, Value.string a0.value_, Value.int .i64 a0.mask_, a0v4]) rfl rfl) rfl fun a hf => oW hf (g := 12) rfl rfl ?_
    obtain ⟨y142, hy143, hp⟩ := bS hp
    have hc145 := node_hashes_ok hw hG hR5 hy143
    refine o_call hf cb_54 rfl rfl hc145 (fun v147 w a hK146 hf => ?_)
    obtain ⟨rfl, hw⟩ := hK146
    refine oW hf (g := 12) rfl rfl <| oR hf (r_not hf rfl) rfl fun a hf => oR hf (pF hf rfl rfl) rfl fun a hf => om hf rfl rfl fun a hf => g_split hf (g := 17) rfl (fun hb148 hf => ?_) (fun hb148 hf => ?_)
    ·replace hp := cond_t hb148 hp
     refine oS hf (g := 17) rfl rfl rfl rfl rfl rfl fun a hf => oS hf (g := 17) rfl rfl rfl rfl rfl rfl fun a hf => oS hf (g := 17) rfl rfl rfl rfl rfl rfl fun a hf => oS hf (g := 17) rfl rfl rfl rfl rfl rfl fun a hf => oR hf (pT hf rfl rfl) rfl fun a hf => om hf rfl rfl fun a hf => oS hf (g := 23) rfl rfl rfl rfl rfl rfl fun a hf => oS hf (g := 23) rfl rfl rfl rfl rfl rfl fun a hf => oS hf (g := 23) rfl rfl rfl rfl rfl rfl fun a hf => oS hf (g := 23) rfl rfl rfl rfl rfl rfl fun a hf => o_skipU hf (g := 27) rfl rfl rfl rfl rfl fun a hf => o_skipU hf (g := 27) rfl rfl rfl rfl rfl fun a hf => o_skipU hf (g := 27) rfl rfl rfl rfl rfl fun a hf => oS hf (g := 23) rfl rfl rfl rfl rfl rfl fun a hf => oR hf (pT hf rfl rfl) rfl fun a hf => om hf rfl rfl fun a hf => ?_
     refine oS hf (g := 33) rfl rfl rfl rfl rfl rfl fun a hf => oS hf (g := 33) rfl rfl rfl rfl rfl rfl fun a hf => oS hf (g := 33) rfl rfl rfl rfl rfl rfl fun a hf => oS hf (g := 33) rfl rfl rfl rfl rfl rfl fun a hf => oR hf (pT hf rfl rfl) rfl fun a hf => oN <| ct ?_
     have ho := oI hp
     subst ho
     exact ⟨true, rfl, hw, hf.to ⟨rfl, rfl, trivial⟩⟩
    ·replace hp := cond_f hb148 hp
     refine oW hf (g := 17) rfl rfl <| oR hf (rF hf rfl fd_32_3) rfl fun a hf => oW hf (g := 17) rfl rfl <| oR hf (rL hw hf rfl ty_9 0 rfl rfl) rfl fun a hf => oW hf (g := 17) rfl rfl <| oR hf (r_lenS hf und_9 rfl) rfl fun a hf => oW hf (g := 17) rfl rfl <| oR hf (iC hf rfl rfl rfl) rfl fun a hf => oR hf (pF hf rfl rfl) rfl fun a hf => om hf rfl rfl fun a hf => g_split hf (g := 23) rfl (fun hb149 hf => ?_) (fun hb149 hf => ?_)
     ·replace hp := cond_t hb149 hp
      refine oS hf (g := 23) rfl rfl rfl rfl rfl rfl fun a hf => oS hf (g := 23) rfl rfl rfl rfl rfl rfl fun a hf => oS hf (g := 23) rfl rfl rfl rfl rfl rfl fun a hf => oS hf (g := 23) rfl rfl rfl rfl rfl rfl fun a hf => o_skipU hf (g := 27) rfl rfl rfl rfl rfl fun a hf => o_skipU hf (g := 27) rfl rfl rfl rfl rfl fun a hf => o_skipU hf (g := 27) rfl rfl rfl rfl rfl fun a hf => oS hf (g := 23) rfl rfl rfl rfl rfl rfl fun a hf => oR hf (pT hf rfl rfl) rfl fun a hf => om hf rfl rfl fun a hf => oS hf (g := 33) rfl rfl rfl rfl rfl rfl fun a hf => oS hf (g := 33) rfl rfl rfl rfl rfl rfl fun a hf => oS hf (g := 33) rfl rfl rfl rfl rfl rfl fun a hf => oS hf (g := 33) rfl rfl rfl rfl rfl rfl fun a hf => oR hf (pT hf rfl rfl) rfl fun a hf => oN ?_
      refine ct ?_
      have ho := oI hp
      subst ho
      exact ⟨true, rfl, hw, hf.to ⟨rfl, rfl, trivial⟩⟩
     ·replace hp := cond_f hb149 hp
      refine oW hf (g := 23) rfl rfl <| oR hf (rF hf rfl fd_32_2) rfl fun a hf => oW hf (g := 23) rfl rfl <| oR hf (rL hw hf rfl ty_4 0 rfl rfl) rfl fun a hf => oW hf (g := 23) rfl rfl <| oR hf (r_not hf rfl) rfl fun a hf => oW hf (g := 23) rfl rfl <| om hf rfl rfl fun a hf => g_split hf (g := 27) rfl (fun hb150 hf => ?_) (fun hb150 hf => ?_)
      ·replace hp := cond_t hb150 hp
       refine oW hf (g := 27) rfl rfl <| oR hf (rF hf rfl fd_32_3) rfl fun a hf => oW hf (g := 27) rfl rfl <| oR hf (rL hw hf rfl ty_9 0 rfl rfl) rfl fun a hf => oW hf (g := 27) rfl rfl <| oR hf (r_scmp hf rfl rfl rfl) rfl fun a hf => oW hf (g := 23) rfl rfl <| oR hf (pT hf rfl rfl) rfl fun a hf => oR hf (pF hf rfl rfl) rfl fun a hf => om hf rfl rfl fun a hf => g_split hf (g := 33) rfl (fun hb151 hf => ?_) (fun hb151 hf => ?_)
       ·replace hp := cond_t hb151 hp
        refine oS hf (g := 33) rfl rfl rfl rfl rfl rfl fun a hf => oS hf (g := 33) rfl rfl rfl rfl rfl rfl fun a hf => oS hf (g := 33) rfl rfl rfl rfl rfl rfl fun a hf => oS hf (g := 33) rfl rfl rfl rfl rfl rfl fun a hf => oR hf (pT hf rfl rfl) rfl fun a hf => oN <| ct ?_
        have ho := oI hp
        subst ho
        exact ⟨true, rfl, hw, hf.to ⟨rfl, rfl, trivial⟩⟩
       ·replace hp := cond_f hb151 hp
        refine oW hf (g := 33) rfl rfl <| oR hf (rF hf rfl fd_32_1) rfl fun a hf => oW hf (g := 33) rfl rfl <| oR hf (rL hw hf rfl ty_9 0 rfl rfl) rfl fun a hf => oW hf (g := 33) rfl rfl ?_
        obtain ⟨y152, hy153, hp⟩ := bS hp
        have hc155 := nibble_Good_ok hw hG hy153
        refine o_call hf cb_55 rfl rfl hc155 (fun v157 w a hK156 hf => ?_)
        obtain ⟨rfl, hw⟩ := hK156
        refine oW hf (g := 33) rfl rfl <| oR hf (r_not hf rfl) rfl fun a hf => oR hf (pF hf rfl rfl) rfl fun a hf => oN <| ct ?_
        have ho := oI hp
        subst ho
        exact ⟨(!y152), rfl, hw, hf.to ⟨rfl, rfl, trivial⟩⟩
      ·replace hp := cond_f hb150 hp
       refine oS hf (g := 27) rfl rfl rfl rfl rfl rfl fun a hf => oS hf (g := 27) rfl rfl rfl rfl rfl rfl fun a hf => oS hf (g := 27) rfl rfl rfl rfl rfl rfl fun a hf => oW hf (g := 23) rfl rfl <| oR hf (pF hf rfl rfl) rfl fun a hf => oR hf (pF hf rfl rfl) rfl fun a hf => om hf rfl rfl fun a hf => oW hf (g := 33) rfl rfl <| oR hf (rF hf rfl fd_32_1) rfl fun a hf => oW hf (g := 33) rfl rfl <| oR hf (rL hw hf rfl ty_9 0 rfl rfl) rfl fun a hf => oW hf (g := 33) rfl rfl ?_
       obtain ⟨y158, hy159, hp⟩ := bS hp
       have hc161 := nibble_Good_ok hw hG hy159
       refine o_call hf cb_55 rfl rfl hc161 (fun v163 w a hK162 hf => ?_)
       obtain ⟨rfl, hw⟩ := hK162
       refine oW hf (g := 33) rfl rfl <| oR hf (r_not hf rfl) rfl fun a hf => oR hf (pF hf rfl rfl) rfl fun a hf => oN <| ct ?_
       have ho := oI hp
       subst ho
       exact ⟨(!y158), rfl, hw, hf.to ⟨rfl, rfl, trivial⟩⟩
 ·intro a w hM
  obtain ⟨y137, rfl, hw, hf⟩ := hM
  replace hp := hq139
  refine cC hf rfl (fun hb164 => ?_) (fun hb164 => ?_)
  ·replace hp := cond_t hb164 hp
   refine wq <| wr <| oa hf rfl rfl fun a hf => oN <| ct <| wp_ret <| c_thenR ?_
   replace hw : Ok E I (F) w := hw.sub (sc sr)
   have ho := oI hp
   subst ho
   exact b_ret1 hf Go.Proofs.Tryd.results30 rfl ⟨_, rfl, ⟨rfl, hw⟩⟩
  ·replace hp := cond_f hb164 hp
   refine wp_skip <| ct <| wq <| wq <| wr <| oR hf (rF hf rfl fd_32_0) rfl fun a hf => oR hf (rL hw hf rfl ty_3 0 rfl rfl) rfl fun a hf => oR hf (rF hf rfl fd_32_1) rfl fun a hf => oR hf (rL hw hf rfl ty_9 0 rfl rfl) rfl fun a hf => oR hf (rF hf rfl fd_32_2) rfl fun a hf => oR hf (rL hw hf rfl ty_4 0 rfl rfl) rfl fun a hf => oR hf (rF hf rfl fd_32_3) rfl fun a hf => oR hf (rL hw hf rfl ty_9 0 rfl rfl) rfl fun a hf => oR hf (rF hf rfl fd_32_4) rfl fun a hf => oR hf (rL hw hf rfl ty_3 0 rfl rfl) rfl fun a hf => oR hf (r_build hf bd_94 (vs := [Value.int .i64 a0.kind_, Value.string a0.path_, Value.bool a0.has_, Value.string a0.value_, Value.int .i64 a0.mask_]) rfl ⟨rfl, rfl, rfl, rfl, rfl, trivial⟩ (by decide) (out := [Value.int .i64 a0.kind_, Value.string a0.path_, Value.bool a0.has_, Value.string a0.value_, Value.int .i64 a0.mask_]) rfl) rfl fun a hf => ?_
   obtain ⟨b165, w, hrun166, hw⟩ := e_alloc (P := P) (a := a) hw ty_94
   replace hw : Ok E I (.blk b165 (.cells ⟨[.int .i64 0, .string (⟨#[]⟩ : ByteArray), .bool false, .string (⟨#[]⟩ : ByteArray), .int .i64 0]⟩ 94 (0, 0)) :: .blk b1 (.cells ⟨[.int .i64 a0.kind_, .string a0.path_, .bool a0.has_, .string a0.value_, .int .i64 a0.mask_, a0v4]⟩ 32 (0, 0)) :: F) w := hw
   refine o_eff hf (hrun166 ..) rfl fun a hf => ?_
   obtain ⟨w, hrun168, hw⟩ := e_store (P := P) hw hf (x := .tmp 3) (y := .tmp 49) rfl rfl ty_94 0 rfl (vs := [Value.int .i64 a0.kind_, Value.string a0.path_, Value.bool a0.has_, Value.string a0.value_, Value.int .i64 a0.mask_]) rfl rfl (oC rfl (oC rfl (oC rfl (oC rfl (oC rfl ones_nil))))) (by simp [arrC_len]) (cs' := [Value.int .i64 a0.kind_, Value.string a0.path_, Value.bool a0.has_, Value.string a0.value_, Value.int .i64 a0.mask_]) rfl
   replace hw : Ok E I (.blk b165 (.cells ⟨[.int .i64 a0.kind_, .string a0.path_, .bool a0.has_, .string a0.value_, .int .i64 a0.mask_]⟩ 94 (0, 0)) :: .blk b1 (.cells ⟨[.int .i64 a0.kind_, .string a0.path_, .bool a0.has_, .string a0.value_, .int .i64 a0.mask_, a0v4]⟩ 32 (0, 0)) :: F) w := hw
   refine o_effU (hrun168 ..) <| oN <| ct <| wq <| wr <| oR hf (rF hf rfl fd_32_0) rfl fun a hf => oR hf (rL hw hf rfl ty_3 1 rfl rfl) rfl fun a hf => oN <| ct <| wp_block <| wq <| wr <| oR hf (iC hf rfl rfl rfl) rfl fun a hf => oa hf rfl rfl fun a hf => oN <| ct ?_
   refine cC hf rfl (fun hb169 => ?_) (fun hb169 => ?_)
   ·replace hp := cond_t hb169 hp
    refine wq <| wr <| oR hf (r_loadA hw hf rfl ty_94 0 rfl (vs := [Value.int .i64 a0.kind_, Value.string a0.path_, Value.bool a0.has_, Value.string a0.value_, Value.int .i64 a0.mask_]) rfl rfl) rfl fun a hf => oR hf (rF hf rfl fd_32_1) rfl fun a hf => oR hf (rL hw hf rfl ty_9 1 rfl rfl) rfl fun a hf => oR hf (rF hf rfl fd_32_3) rfl fun a hf => oR hf (rL hw hf rfl ty_9 1 rfl rfl) rfl fun a hf => oR hf (r_build hf bd_94 (vs := [Value.int .i64 1, Value.string a0.path_, Value.bool true, Value.string a0.value_]) rfl ⟨rfl, rfl, rfl, rfl, trivial⟩ (by decide) (out := [Value.int .i64 1, Value.string a0.path_, Value.bool true, Value.string a0.value_, Value.int .i64 0]) rfl) rfl fun a hf => oR hf (r_eql_node_face_T hf (x := (⟨a0.kind_, a0.path_, a0.has_, a0.value_, a0.mask_⟩ : node_face_T)) (y := (⟨1, a0.path_, true, a0.value_, 0⟩ : node_face_T)) rfl rfl) rfl fun a hf => oa hf rfl rfl fun a hf => oN <| ct <| wp_ret <| c_blockR <| c_thenR ?_
    replace hw : Ok E I (F) w := hw.sub (sc (sc sr))
    have ho := oI hp
    subst ho
    exact b_ret1 hf Go.Proofs.Tryd.results30 rfl ⟨_, rfl, ⟨rfl, hw⟩⟩
   ·replace hp := cond_f hb169 hp
    refine wq <| wr <| oR hf (iC hf rfl rfl rfl) rfl fun a hf => oa hf rfl rfl fun a hf => oN <| ct <| cC hf rfl (fun hb170 => ?_) (fun hb170 => ?_)
    ·replace hp := cond_t hb170 hp
     obtain ⟨out174, hp, hq175⟩ := bS hp
     refine c_cut (fun a w => ∃ y173 : Bool, y173 = out174 ∧ Ok E I (.blk b165 (.cells ⟨[.int .i64 a0.kind_, .string a0.path_, .bool a0.has_, .string a0.value_, .int .i64 a0.mask_]⟩ 94 (0, 0)) :: .blk b1 (.cells ⟨[.int .i64 a0.kind_, .string a0.path_, .bool a0.has_, .string a0.value_, .int .i64 a0.mask_, a0v4]⟩ 32 (0, 0)) :: F) w ∧ Fr 94 ([(2, .bool y173)]) a) ?_ ?_
     ·refine wr <| oR hf (r_loadA hw hf rfl ty_94 0 rfl (vs := [Value.int .i64 a0.kind_, Value.string a0.path_, Value.bool a0.has_, Value.string a0.value_, Value.int .i64 a0.mask_]) rfl rfl) rfl fun a hf => oR hf (rF hf rfl fd_32_1) rfl fun a hf => oR hf (rL hw hf rfl ty_9 1 rfl rfl) rfl fun a hf => oR hf (r_build hf bd_94 (vs := [Value.int .i64 2, Value.string a0.path_, Value.int .i64 1]) rfl ⟨rfl, rfl, rfl, trivial⟩ (by decide) (out := [Value.int .i64 2, Value.string a0.path_, Value.bool false, Value.string (⟨#[]⟩ : ByteArray), Value.int .i64 1]) rfl) rfl fun a hf => oR hf (r_eql_node_face_T hf (x := (⟨a0.kind_, a0.path_, a0.has_, a0.value_, a0.mask_⟩ : node_face_T)) (y := (⟨2, a0.path_, false, (⟨#[]⟩ : ByteArray), 1⟩ : node_face_T)) rfl rfl) rfl fun a hf => om hf rfl rfl fun a hf => g_split hf (g := 68) rfl (fun hb176 hf => ?_) (fun hb176 hf => ?_)
      ·replace hp := cond_t hb176 hp
       refine oW hf (g := 68) rfl rfl <| oR hf (rF hf rfl fd_32_1) rfl fun a hf => oW hf (g := 68) rfl rfl <| oR hf (rL hw hf rfl ty_9 1 rfl rfl) rfl fun a hf => oW hf (g := 68) rfl rfl <| oR hf (r_scmp hf rfl rfl rfl) rfl fun a hf => oR hf (pT hf rfl rfl) rfl fun a hf => oa hf rfl rfl fun a hf => oN <| ct ?_
       have ho := oI hp
       subst ho
       exact ⟨(!(seq_ a0.path_ (⟨#[]⟩ : ByteArray))), rfl, hw, hf.to ⟨rfl, trivial⟩⟩
      ·replace hp := cond_f hb176 hp
       refine oS hf (g := 68) rfl rfl rfl rfl rfl rfl fun a hf => oS hf (g := 68) rfl rfl rfl rfl rfl rfl fun a hf => oS hf (g := 68) rfl rfl rfl rfl rfl rfl fun a hf => oR hf (pF hf rfl rfl) rfl fun a hf => oa hf rfl rfl fun a hf => oN <| ct ?_
       have ho := oI hp
       subst ho
       exact ⟨false, rfl, hw, hf.to ⟨rfl, trivial⟩⟩
     ·intro a w hM
      obtain ⟨y173, rfl, hw, hf⟩ := hM
      replace hp := hq175
      refine wp_ret <| c_blockR <| c_thenR ?_
      replace hw : Ok E I (F) w := hw.sub (sc (sc sr))
      have ho := oI hp
      subst ho
      exact b_ret1 hf Go.Proofs.Tryd.results30 rfl ⟨_, rfl, ⟨rfl, hw⟩⟩
    ·replace hp := cond_f hb170 hp
     refine wq <| wr <| oR hf (iC hf rfl rfl rfl) rfl fun a hf => oa hf rfl rfl fun a hf => oN <| ct <| cC hf rfl (fun hb177 => ?_) (fun hb177 => ?_)
     ·replace hp := cond_t hb177 hp
      obtain ⟨out185, hp, hq186⟩ := bS hp
      refine c_cut (fun a w => ∃ y184 : Bool, y184 = out185 ∧ Ok E I (.blk b165 (.cells ⟨[.int .i64 a0.kind_, .string a0.path_, .bool a0.has_, .string a0.value_, .int .i64 a0.mask_]⟩ 94 (0, 0)) :: .blk b1 (.cells ⟨[.int .i64 a0.kind_, .string a0.path_, .bool a0.has_, .string a0.value_, .int .i64 a0.mask_, a0v4]⟩ 32 (0, 0)) :: F) w ∧ Fr 94 ([(2, .bool y184)]) a) ?_ ?_
      ·refine wr <| oR hf (rF hf rfl fd_32_1) rfl fun a hf => oR hf (rL hw hf rfl ty_9 1 rfl rfl) rfl fun a hf => oR hf (r_scmp hf rfl rfl rfl) rfl fun a hf => om hf rfl rfl fun a hf => g_split hf (g := 78) rfl (fun hb187 hf => ?_) (fun hb187 hf => ?_)
       ·replace hp := cond_t hb187 hp
        refine oW hf (g := 78) rfl rfl <| oR hf (rF hf rfl fd_32_5) rfl fun a hf => oW hf (g := 78) rfl rfl <| oR hf (rL hw hf rfl ty_28 1 rfl rfl) rfl fun a hf => oW hf (g := 78) rfl rfl <| oR hf (r_lenL (K := ekS) hf el_28 rfl (hR5.rd hw)) rfl fun a hf => oW hf (g := 78) rfl rfl <| oR hf (iC hf rfl rfl rfl) rfl fun a hf => oW hf (g := 78) rfl rfl <| om hf rfl rfl fun a hf => g_split hf (g := 83) rfl (fun hb188 hf => ?_) (fun hb188 hf => ?_)
        ·replace hp := cond_t hb188 hp
         refine oS hf (g := 83) rfl rfl rfl rfl rfl rfl fun a hf => oS hf (g := 83) rfl rfl rfl rfl rfl rfl fun a hf => oS hf (g := 83) rfl rfl rfl rfl rfl rfl fun a hf => o_skipU hf (g := 86) rfl rfl rfl rfl rfl fun a hf => o_skipU hf (g := 86) rfl rfl rfl rfl rfl fun a hf => o_skipU hf (g := 86) rfl rfl rfl rfl rfl fun a hf => o_skipU hf (g := 86) rfl rfl rfl rfl rfl fun a hf => oS hf (g := 83) rfl rfl rfl rfl rfl rfl fun a hf => oW hf (g := 78) rfl rfl <| oR hf (pT hf rfl rfl) rfl fun a hf => oR hf (pT hf rfl rfl) rfl fun a hf => oa hf rfl rfl fun a hf => oN <| ct ?_
         have ho := oI hp
         subst ho
         exact ⟨true, rfl, hw, hf.to ⟨rfl, trivial⟩⟩
        ·replace hp := cond_f hb188 hp
         refine oW hf (g := 83) rfl rfl <| oR hf (rF hf rfl fd_32_2) rfl fun a hf => oW hf (g := 83) rfl rfl <| oR hf (rL hw hf rfl ty_4 1 rfl rfl) rfl fun a hf => oW hf (g := 83) rfl rfl <| om hf rfl rfl fun a hf => g_split hf (g := 86) rfl (fun hb189 hf => ?_) (fun hb189 hf => ?_)
         ·replace hp := cond_t hb189 hp
          refine oW hf (g := 86) rfl rfl <| oR hf (rF hf rfl fd_32_5) rfl fun a hf => oW hf (g := 86) rfl rfl <| oR hf (rL hw hf rfl ty_28 1 rfl rfl) rfl fun a hf => oW hf (g := 86) rfl rfl <| oR hf (r_lenL (K := ekS) hf el_28 rfl (hR5.rd hw)) rfl fun a hf => oW hf (g := 86) rfl rfl <| oR hf (iC hf rfl rfl rfl) rfl fun a hf => oW hf (g := 83) rfl rfl <| oR hf (pT hf rfl rfl) rfl fun a hf => oW hf (g := 78) rfl rfl <| oR hf (pF hf rfl rfl) rfl fun a hf => oR hf (pT hf rfl rfl) rfl fun a hf => oa hf rfl rfl fun a hf => oN <| ct ?_
          have ho := oI hp
          subst ho
          exact ⟨(decide ((a0.hashes_.length : Int) > 0)), rfl, hw, hf.to ⟨rfl, trivial⟩⟩
         ·replace hp := cond_f hb189 hp
          refine oS hf (g := 86) rfl rfl rfl rfl rfl rfl fun a hf => oS hf (g := 86) rfl rfl rfl rfl rfl rfl fun a hf => oS hf (g := 86) rfl rfl rfl rfl rfl rfl fun a hf => oS hf (g := 86) rfl rfl rfl rfl rfl rfl fun a hf => oW hf (g := 83) rfl rfl <| oR hf (pF hf rfl rfl) rfl fun a hf => oW hf (g := 78) rfl rfl <| oR hf (pF hf rfl rfl) rfl fun a hf => oR hf (pT hf rfl rfl) rfl fun a hf => oa hf rfl rfl fun a hf => oN <| ct ?_
          have ho := oI hp
          subst ho
          exact ⟨false, rfl, hw, hf.to ⟨rfl, trivial⟩⟩
       ·replace hp := cond_f hb187 hp
        refine oS hf (g := 78) rfl rfl rfl rfl rfl rfl fun a hf => oS hf (g := 78) rfl rfl rfl rfl rfl rfl fun a hf => oS hf (g := 78) rfl rfl rfl rfl rfl rfl fun a hf => oS hf (g := 78) rfl rfl rfl rfl rfl rfl fun a hf => oS hf (g := 78) rfl rfl rfl rfl rfl rfl fun a hf => o_skipU hf (g := 83) rfl rfl rfl rfl rfl fun a hf => o_skipU hf (g := 83) rfl rfl rfl rfl rfl fun a hf => o_skipU hf (g := 83) rfl rfl rfl rfl rfl fun a hf => o_skipU hf (g := 86) rfl rfl rfl rfl rfl fun a hf => o_skipU hf (g := 86) rfl rfl rfl rfl rfl fun a hf => o_skipU hf (g := 86) rfl rfl rfl rfl rfl fun a hf => o_skipU hf (g := 86) rfl rfl rfl rfl rfl fun a hf => o_skipU hf (g := 83) rfl rfl rfl rfl rfl fun a hf => oS hf (g := 78) rfl rfl rfl rfl rfl rfl fun a hf => oR hf (pF hf rfl rfl) rfl fun a hf => oa hf rfl rfl fun a hf => ?_
        refine oN <| ct ?_
        have ho := oI hp
        subst ho
        exact ⟨false, rfl, hw, hf.to ⟨rfl, trivial⟩⟩
      ·intro a w hM
       obtain ⟨y184, rfl, hw, hf⟩ := hM
       replace hp := hq186
       refine wp_ret <| c_blockR <| c_thenR ?_
       replace hw : Ok E I (F) w := hw.sub (sc (sc sr))
       have ho := oI hp
       subst ho
       exact b_ret1 hf Go.Proofs.Tryd.results30 rfl ⟨_, rfl, ⟨rfl, hw⟩⟩
     ·replace hp := cond_f hb177 hp
      refine wp_skip <| c_blockN <| ct <| wq <| wr <| oa hf rfl rfl fun a hf => oN <| ct <| wp_ret ?_
      replace hw : Ok E I (F) w := hw.sub (sc (sc sr))
      have ho := oI hp
      subst ho
      exact b_ret1 hf Go.Proofs.Tryd.results30 rfl ⟨_, rfl, ⟨rfl, hw⟩⟩

theorem nibble_Pack_ok {E : World} {I : IH} {F : List Atom} {w : World} {a0 : ByteArray} {res0 : ByteArray} {res1 : Bool} (hw : Ok E I (F) w) (hG : Gl I) (hp : nibble_Pack.f a0 = some (res0, res1)) :
  Calls P 51 ⟨[Value.string a0]⟩ w fun e w' => ∃ v, e = .returned v ∧ v = Value.tuple ⟨[Value.string res0, Value.bool res1]⟩ ∧ Ok E I (F) w' := by
 refine c_enter Go.Proofs.Tryd.func51 rfl Go.Proofs.Tryd.ntmps51 rfl fun a hf => ?_
 replace hf : Fr 15 [(0, .string a0)] a := hf
 unfold nibble_Pack.f at hp
 refine wq <| wr <| oa hf rfl rfl fun a hf => oa hf rfl rfl fun a hf => oN <| ct <| wq <| wq <| wr <| om hf rfl rfl fun a hf => ?_
 obtain ⟨y1, hy2, hp⟩ := bS hp
 have hc4 := nibble_Good_ok hw hG hy2
 refine o_call hf cb_55 rfl rfl hc4 (fun v6 w a hK5 hf => ?_)
 obtain ⟨rfl, hw⟩ := hK5
 refine oR hf (r_not hf rfl) rfl fun a hf => oN <| ct <| cC hf rfl (fun hb7 => ?_) (fun hb7 => ?_)
 ·replace hp := cond_t hb7 hp
  refine wq <| wr <| oa hf rfl rfl fun a hf => oa hf rfl rfl fun a hf => oN <| ct <| wp_ret <| c_thenR ?_
  have ho := oI hp
  simp only [Prod.mk.injEq] at ho
  obtain ⟨rfl, rfl⟩ := ho
  exact b_ret2 hf Go.Proofs.Tryd.results51 rfl rfl ⟨_, rfl, ⟨rfl, hw⟩⟩
 ·replace hp := cond_f hb7 hp
  refine wp_skip <| ct <| wq <| c_drawn mix [] (.rd 0 (.rd 1 (.rd 2 (.rd 5 (.ef2 3 (.ef2 4 (.ef 6 (.rd 7 (.rd 8 (.rd 9 .done)))) 6 (.ef 4 (.rd 7 (.rd 8 (.rd 9 .done))))) 6 (.ef 3 (.ef 4 (.rd 7 (.rd 8 (.rd 9 .done)))))))))) (by kernel_rfl) hw (fun w => Ok E I (F) w) (fun w hw => ⟨hw.sub sr, ?_⟩)
  refine tm rfl hf rfl rfl fun a hf => tR rfl hf (fun w hw => r_lenS hf und_9 rfl) rfl fun a hf => tR rfl hf (fun w hw => r_convI hf und_3 und_5 rfl) rfl fun a hf => tm rfl hf rfl rfl fun a hf => t_ef2 rfl rfl ?_ ?_
  ·obtain ⟨w, v9, hrun10, hw, hRR11⟩ := e_buildSlice (P := P) (K := (ekI .u8)) (m := 1) hw hf (parts := [(0, .tmp 9)]) el_60 ty_5 rfl rfl rfl (ccs := [[Value.int .u8 (wu8 (a0.size : Int))]]) rfl (xs := [wu8 (a0.size : Int)]) ⟨rfl, trivial⟩ rfl
   obtain ⟨cs12, hcs⟩ : ∃ cs, cs = ([[Value.int .u8 (wu8 (a0.size : Int))]] : List (List Value)).flatten := ⟨_, rfl⟩
   rw [← hcs] at hw hRR11; clear hcs
   refine t_eff hf (hrun10 ..) rfl fun a hf => ⟨.inr (hw.back (IH.le_refl _) (sc sr)), ?_⟩
   refine t_ef2 rfl rfl ?_ ?_
   ·refine t_eff hf (r_convB hf und_60 und_5 und_9 rfl (rR (K := (ekI .u8)) hw (i := 0) rfl hRR11)) rfl fun a hf => ⟨.inr (hw.back (IH.le_refl _) (sc sr)), ?_⟩
    refine t_ef rfl ?_
    obtain ⟨y14, hy15, hp⟩ := bS hp
    have hc17 := nibble_two_ok hw hG hy15
    refine t_call hf cb_70 rfl rfl hc17 (fun v19 w a hK18 hf => ?_)
    obtain ⟨rfl, hw⟩ := hK18
    refine ⟨.inr (hw.back (IH.le_refl _) (sc sr)), ?_⟩
    obtain ⟨hg20, hp⟩ := gS hp
    refine tR rfl hf (fun w hw => r_sadd hf rfl rfl hg20) rfl fun a hf => tR rfl hf (fun w hw => r_assign hf rfl) rfl fun a hf => tR rfl hf (fun w hw => r_assign hf rfl) rfl fun a hf => t_done <| ct <| wp_ret ?_
    replace hw : Ok E I (F) w := hw.sub (sc sr)
    have ho := oI hp
    simp only [Prod.mk.injEq] at ho
    obtain ⟨rfl, rfl⟩ := ho
    exact b_ret2 hf Go.Proofs.Tryd.results51 rfl rfl ⟨_, rfl, ⟨rfl, hw⟩⟩
   ·obtain ⟨y21, hy22, hp⟩ := bS hp
    have hc24 := nibble_two_ok hw hG hy22
    refine t_call hf cb_70 rfl rfl hc24 (fun v26 w a hK25 hf => ?_)
    obtain ⟨rfl, hw⟩ := hK25
    refine ⟨.inr (hw.back (IH.le_refl _) (sc sr)), ?_⟩
    refine t_ef rfl <| t_eff hf (r_convB hf und_60 und_5 und_9 rfl (rR (K := (ekI .u8)) hw (i := 0) rfl hRR11)) rfl fun a hf => ⟨.inr (hw.back (IH.le_refl _) (sc sr)), ?_⟩
    obtain ⟨hg27, hp⟩ := gS hp
    refine tR rfl hf (fun w hw => r_sadd hf rfl rfl hg27) rfl fun a hf => tR rfl hf (fun w hw => r_assign hf rfl) rfl fun a hf => tR rfl hf (fun w hw => r_assign hf rfl) rfl fun a hf => t_done <| ct <| wp_ret ?_
    replace hw : Ok E I (F) w := hw.sub (sc sr)
    have ho := oI hp
    simp only [Prod.mk.injEq] at ho
    obtain ⟨rfl, rfl⟩ := ho
    exact b_ret2 hf Go.Proofs.Tryd.results51 rfl rfl ⟨_, rfl, ⟨rfl, hw⟩⟩
  ·obtain ⟨y28, hy29, hp⟩ := bS hp
   have hc31 := nibble_two_ok hw hG hy29
   refine t_call hf cb_70 rfl rfl hc31 (fun v33 w a hK32 hf => ?_)
   obtain ⟨rfl, hw⟩ := hK32
   refine ⟨.inr (hw.back (IH.le_refl _) sr), ?_⟩
   refine t_ef rfl ?_
   obtain ⟨w, v34, hrun35, hw, hRR36⟩ := e_buildSlice (P := P) (K := (ekI .u8)) (m := 1) hw hf (parts := [(0, .tmp 9)]) el_60 ty_5 rfl rfl rfl (ccs := [[Value.int .u8 (wu8 (a0.size : Int))]]) rfl (xs := [wu8 (a0.size : Int)]) ⟨rfl, trivial⟩ rfl
   obtain ⟨cs37, hcs⟩ : ∃ cs, cs = ([[Value.int .u8 (wu8 (a0.size : Int))]] : List (List Value)).flatten := ⟨_, rfl⟩
   rw [← hcs] at hw hRR36; clear hcs
   refine t_eff hf (hrun35 ..) rfl fun a hf => ⟨.inr (hw.back (IH.le_refl _) (sc sr)), ?_⟩
   refine t_ef rfl <| t_eff hf (r_convB hf und_60 und_5 und_9 rfl (rR (K := (ekI .u8)) hw (i := 0) rfl hRR36)) rfl fun a hf => ⟨.inr (hw.back (IH.le_refl _) (sc sr)), ?_⟩
   obtain ⟨hg39, hp⟩ := gS hp
   refine tR rfl hf (fun w hw => r_sadd hf rfl rfl hg39) rfl fun a hf => tR rfl hf (fun w hw => r_assign hf rfl) rfl fun a hf => tR rfl hf (fun w hw => r_assign hf rfl) rfl fun a hf => t_done <| ct <| wp_ret ?_
   replace hw : Ok E I (F) w := hw.sub (sc sr)
   have ho := oI hp
   simp only [Prod.mk.injEq] at ho
   obtain ⟨rfl, rfl⟩ := ho
   exact b_ret2 hf Go.Proofs.Tryd.results51 rfl rfl ⟨_, rfl, ⟨rfl, hw⟩⟩

theorem node_value_ok {E : World} {I : IH} {F : List Atom} {w : World} {a0 : ByteArray} {res0 : ByteArray} (hw : Ok E I (F) w) (hG : Gl I) (hp : node_value.f a0 = some res0) :
  Calls P 53 ⟨[Value.string a0]⟩ w fun e w' => ∃ v, e = .returned v ∧ v = Value.string res0 ∧ Ok E I (F) w' := by
 refine c_enter Go.Proofs.Tryd.func53 rfl Go.Proofs.Tryd.ntmps53 rfl fun a hf => ?_
 replace hf : Fr 10 [(0, .string a0)] a := hf
 unfold node_value.f at hp
 refine wq <| wr <| oa hf rfl rfl fun a hf => oN <| ct <| wq <| wr <| om hf rfl rfl fun a hf => oR hf (r_lenS hf und_9 rfl) rfl fun a hf => oR hf (r_convI hf und_3 und_5 rfl) rfl fun a hf => ?_
 obtain ⟨w, v1, hrun2, hw, hRR3⟩ := e_buildSlice (P := P) (K := (ekI .u8)) (m := 1) hw hf (parts := [(0, .tmp 5)]) el_60 ty_5 rfl rfl rfl (ccs := [[Value.int .u8 (wu8 (a0.size : Int))]]) rfl (xs := [wu8 (a0.size : Int)]) ⟨rfl, trivial⟩ rfl
 obtain ⟨cs4, hcs⟩ : ∃ cs, cs = ([[Value.int .u8 (wu8 (a0.size : Int))]] : List (List Value)).flatten := ⟨_, rfl⟩
 rw [← hcs] at hw hRR3; clear hcs
 refine o_eff hf (hrun2 ..) rfl fun a hf => oR hf (r_convB hf und_60 und_5 und_9 rfl (rR (K := (ekI .u8)) hw (i := 0) rfl hRR3)) rfl fun a hf => om hf rfl rfl fun a hf => ?_
 obtain ⟨hg6, hp⟩ := gS hp
 refine oR hf (r_sadd hf rfl rfl hg6) rfl fun a hf => oa hf rfl rfl fun a hf => oN <| ct <| wp_ret ?_
 replace hw : Ok E I (F) w := hw.sub (sc sr)
 have ho := oI hp
 subst ho
 exact b_ret1 hf Go.Proofs.Tryd.results53 rfl ⟨_, rfl, ⟨rfl, hw⟩⟩
end Go.Lf
