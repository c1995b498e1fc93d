import Derived.Test.YtckhmgglgbnaaaaGreatDoorZD
import Derived.Test.YtckhmgglgbnaaaaGreatDoorZF
import Derived.Test.YtckhmgglgbnaaaaGreatDoorJ
import Derived.Test.YtckhmgglgbnaaaaGreatDoorUB
import Derived.Test.YtckhmgglgbnaaaaGreatDoorZK13
set_option linter.unusedVariables false
set_option linter.unusedSimpArgs false
set_option maxHeartbeats 1000000
set_option maxRecDepth 20000
namespace Go.Lf
open Go Go.Proofs.Tryz
theorem node_Good_ok {E : World} {I : IH} {F : List Atom} {w : World} {a0 : Item} {a0v4 : Value} {res0 : Bool} (hw : Ok E I (F) w) (hG : Gl I) (hR5 : RS ekS I a0v4 a0.hashes_) (hp : node_Good.f a0 = some res0) :
  Calls P 64 ⟨[Value.agg ⟨[Value.int .i64 a0.kind_, Value.string a0.path_, Value.bool a0.has_, Value.string a0.value_, Value.int .i64 a0.mask_, a0v4]⟩]⟩ w fun e w' => ∃ v, e = .returned v ∧ v = Value.bool res0 ∧ Ok E I (F) w' := by
 refine c_enter func64 rfl ntmps64 rfl fun a hf => ?_
 replace hf : Fr 94 [(0, Value.agg ⟨[.int .i64 a0.kind_, .string a0.path_, .bool a0.has_, .string a0.value_, .int .i64 a0.mask_, a0v4]⟩)] a := hf
 unfold node_Good.f at hp
 refine wq <| wr ?_
 obtain ⟨b1, w, hrun2, hw⟩ := e_box (P := P) hw hf (e := 86) (x := .tmp 0) rfl (cs := [Value.int .i64 a0.kind_, Value.string a0.path_, Value.bool a0.has_, Value.string a0.value_, Value.int .i64 a0.mask_, a0v4]) rfl
 refine o_eff hf (hrun2 ..) rfl fun a hf => oa hf rfl rfl fun a hf => oN <| ct <| wq ?_
 obtain ⟨out156, hp, hq157⟩ := bS hp
 refine c_cut (fun a w => ∃ y155 : Bool, y155 = out156 ∧ Ok E I (.blk b1 (.cells ⟨[.int .i64 a0.kind_, .string a0.path_, .bool a0.has_, .string a0.value_, .int .i64 a0.mask_, a0v4]⟩ 86 (0, 0)) :: F) w ∧ Fr 94 ([(1, .pointer (some ⟨b1, 0, none⟩)), (38, .bool y155)]) a) ?_ ?_
 ·refine wr <| oR hf (rF hf rfl fd_86_4) rfl fun a hf => oR hf (rL hw hf rfl ty_3 0 rfl rfl) rfl fun a hf => oR hf (iC hf rfl rfl rfl) rfl fun a hf => om hf rfl rfl fun a hf => g_split hf (g := 7) rfl (fun hb158 hf => ?_) (fun hb158 hf => ?_)
  ·replace hp := cond_t hb158 hp
   refine oQ hf (g := 7) rfl fun a hf => oQ hf (g := 7) rfl fun a hf => oQ hf (g := 7) rfl fun a hf => oR hf (pT hf rfl rfl) rfl fun a hf => om hf rfl rfl fun a hf => oQ hf (g := 12) rfl fun a hf => oQ hf (g := 12) rfl fun a hf => oQ hf (g := 12) rfl fun a hf => oR hf (pT hf rfl rfl) rfl fun a hf => om hf rfl rfl fun a hf => oQ hf (g := 17) rfl fun a hf => oQ hf (g := 17) rfl fun a hf => oQ hf (g := 17) rfl fun a hf => oQ hf (g := 17) rfl fun a hf => oR hf (pT hf rfl rfl) rfl fun a hf => om hf rfl rfl fun a hf => ?_
   refine oQ hf (g := 23) rfl fun a hf => oQ hf (g := 23) rfl fun a hf => oQ hf (g := 23) rfl fun a hf => oQ hf (g := 23) rfl fun a hf => o_skipU hf (g := 27) rfl rfl rfl rfl rfl fun a hf => o_skipU hf (g := 27) rfl rfl rfl rfl rfl fun a hf => o_skipU hf (g := 27) rfl rfl rfl rfl rfl fun a hf => oQ hf (g := 23) rfl fun a hf => oR hf (pT hf rfl rfl) rfl fun a hf => om hf rfl rfl fun a hf => oQ hf (g := 33) rfl fun a hf => oQ hf (g := 33) rfl fun a hf => oQ hf (g := 33) rfl fun a hf => oQ hf (g := 33) rfl fun a hf => oR hf (pT hf rfl rfl) rfl fun a hf => oN ?_
   refine ct ?_
   have ho := oI hp
   subst ho
   exact ⟨true, rfl, hw, hf.to ⟨rfl, rfl, trivial⟩⟩
  ·replace hp := cond_f hb158 hp
   refine oW hf (g := 7) rfl rfl <| oR hf (rF hf rfl fd_86_4) rfl fun a hf => oW hf (g := 7) rfl rfl <| oR hf (rL hw hf rfl ty_3 0 rfl rfl) rfl fun a hf => oW hf (g := 7) rfl rfl <| oR hf (iC hf rfl rfl rfl) rfl fun a hf => oR hf (pF hf rfl rfl) rfl fun a hf => om hf rfl rfl fun a hf => g_split hf (g := 12) rfl (fun hb159 hf => ?_) (fun hb159 hf => ?_)
   ·replace hp := cond_t hb159 hp
    refine oQ hf (g := 12) rfl fun a hf => oQ hf (g := 12) rfl fun a hf => oQ hf (g := 12) rfl fun a hf => oR hf (pT hf rfl rfl) rfl fun a hf => om hf rfl rfl fun a hf => oQ hf (g := 17) rfl fun a hf => oQ hf (g := 17) rfl fun a hf => oQ hf (g := 17) rfl fun a hf => oQ hf (g := 17) rfl fun a hf => oR hf (pT hf rfl rfl) rfl fun a hf => om hf rfl rfl fun a hf => oQ hf (g := 23) rfl fun a hf => oQ hf (g := 23) rfl fun a hf => oQ hf (g := 23) rfl fun a hf => oQ hf (g := 23) rfl fun a hf => o_skipU hf (g := 27) rfl rfl rfl rfl rfl fun a hf => ?_
    refine o_skipU hf (g := 27) rfl rfl rfl rfl rfl fun a hf => o_skipU hf (g := 27) rfl rfl rfl rfl rfl fun a hf => oQ hf (g := 23) rfl fun a hf => oR hf (pT hf rfl rfl) rfl fun a hf => om hf rfl rfl fun a hf => oQ hf (g := 33) rfl fun a hf => oQ hf (g := 33) rfl fun a hf => oQ hf (g := 33) rfl fun a hf => oQ hf (g := 33) rfl fun a hf => oR hf (pT hf rfl rfl) rfl fun a hf => oN <| ct ?_
    have ho := oI hp
    subst ho
    exact ⟨true, rfl, hw, hf.to ⟨rfl, rfl, trivial⟩⟩
   ·replace hp := cond_f hb159 hp
    refine oW hf (g := 12) rfl rfl <| oR hf (r_loadA hw hf rfl ty_86 0 rfl (vs := [.int .i64 a0.kind_, .string a0.path_, .bool a0.has_, .string a0.value_, .int .i64 a0.mask_, a0v4]) rfl rfl) rfl fun a hf => oW hf (g := 12) rfl rfl ?_
    obtain ⟨y160, hy161, hp⟩ := bS hp
    have hc163 := node_hashes_ok hw hG hR5 hy161
    refine o_call hf cb_96 rfl rfl hc163 (fun v165 w a hK164 hf => ?_)
    obtain ⟨rfl, hw⟩ := hK164
    refine oW hf (g := 12) rfl rfl <| oR hf (r_not hf rfl) rfl fun a hf => oR hf (pF hf rfl rfl) rfl fun a hf => om hf rfl rfl fun a hf => g_split hf (g := 17) rfl (fun hb166 hf => ?_) (fun hb166 hf => ?_)
    ·replace hp := cond_t hb166 hp
     refine oQ hf (g := 17) rfl fun a hf => oQ hf (g := 17) rfl fun a hf => oQ hf (g := 17) rfl fun a hf => oQ hf (g := 17) rfl fun a hf => oR hf (pT hf rfl rfl) rfl fun a hf => om hf rfl rfl fun a hf => oQ hf (g := 23) rfl fun a hf => oQ hf (g := 23) rfl fun a hf => oQ hf (g := 23) rfl fun a hf => oQ hf (g := 23) rfl fun a hf => o_skipU hf (g := 27) rfl rfl rfl rfl rfl fun a hf => o_skipU hf (g := 27) rfl rfl rfl rfl rfl fun a hf => o_skipU hf (g := 27) rfl rfl rfl rfl rfl fun a hf => oQ hf (g := 23) rfl fun a hf => oR hf (pT hf rfl rfl) rfl fun a hf => om hf rfl rfl fun a hf => ?_
     refine oQ hf (g := 33) rfl fun a hf => oQ hf (g := 33) rfl fun a hf => oQ hf (g := 33) rfl fun a hf => oQ hf (g := 33) rfl fun a hf => oR hf (pT hf rfl rfl) rfl fun a hf => oN <| ct ?_
     have ho := oI hp
     subst ho
     exact ⟨true, rfl, hw, hf.to ⟨rfl, rfl, trivial⟩⟩
    ·replace hp := cond_f hb166 hp
     refine oW hf (g := 17) rfl rfl <| oR hf (rF hf rfl fd_86_3) rfl fun a hf => oW hf (g := 17) rfl rfl <| oR hf (rL hw hf rfl ty_9 0 rfl rfl) rfl fun a hf => oW hf (g := 17) rfl rfl <| oR hf (r_lenS hf und_9 rfl) rfl fun a hf => oW hf (g := 17) rfl rfl <| oR hf (iC hf rfl rfl rfl) rfl fun a hf => oR hf (pF hf rfl rfl) rfl fun a hf => om hf rfl rfl fun a hf => g_split hf (g := 23) rfl (fun hb167 hf => ?_) (fun hb167 hf => ?_)
     ·replace hp := cond_t hb167 hp
      refine oQ hf (g := 23) rfl fun a hf => oQ hf (g := 23) rfl fun a hf => oQ hf (g := 23) rfl fun a hf => oQ hf (g := 23) rfl fun a hf => o_skipU hf (g := 27) rfl rfl rfl rfl rfl fun a hf => o_skipU hf (g := 27) rfl rfl rfl rfl rfl fun a hf => o_skipU hf (g := 27) rfl rfl rfl rfl rfl fun a hf => oQ hf (g := 23) rfl fun a hf => oR hf (pT hf rfl rfl) rfl fun a hf => om hf rfl rfl fun a hf => oQ hf (g := 33) rfl fun a hf => oQ hf (g := 33) rfl fun a hf => oQ hf (g := 33) rfl fun a hf => oQ hf (g := 33) rfl fun a hf => oR hf (pT hf rfl rfl) rfl fun a hf => oN ?_
      refine ct ?_
      have ho := oI hp
      subst ho
      exact ⟨true, rfl, hw, hf.to ⟨rfl, rfl, trivial⟩⟩
     ·replace hp := cond_f hb167 hp
      refine oW hf (g := 23) rfl rfl <| oR hf (rF hf rfl fd_86_2) rfl fun a hf => oW hf (g := 23) rfl rfl <| oR hf (rL hw hf rfl ty_4 0 rfl rfl) rfl fun a hf => oW hf (g := 23) rfl rfl <| oR hf (r_not hf rfl) rfl fun a hf => oW hf (g := 23) rfl rfl <| om hf rfl rfl fun a hf => g_split hf (g := 27) rfl (fun hb168 hf => ?_) (fun hb168 hf => ?_)
      ·replace hp := cond_t hb168 hp
       refine oW hf (g := 27) rfl rfl <| oR hf (rF hf rfl fd_86_3) rfl fun a hf => oW hf (g := 27) rfl rfl <| oR hf (rL hw hf rfl ty_9 0 rfl rfl) rfl fun a hf => oW hf (g := 27) rfl rfl <| oR hf (r_scmp hf rfl rfl rfl) rfl fun a hf => oW hf (g := 23) rfl rfl <| oR hf (pT hf rfl rfl) rfl fun a hf => oR hf (pF hf rfl rfl) rfl fun a hf => om hf rfl rfl fun a hf => g_split hf (g := 33) rfl (fun hb169 hf => ?_) (fun hb169 hf => ?_)
       ·replace hp := cond_t hb169 hp
        refine oQ hf (g := 33) rfl fun a hf => oQ hf (g := 33) rfl fun a hf => oQ hf (g := 33) rfl fun a hf => oQ hf (g := 33) rfl fun a hf => oR hf (pT hf rfl rfl) rfl fun a hf => oN <| ct ?_
        have ho := oI hp
        subst ho
        exact ⟨true, rfl, hw, hf.to ⟨rfl, rfl, trivial⟩⟩
       ·replace hp := cond_f hb169 hp
        refine oW hf (g := 33) rfl rfl <| oR hf (rF hf rfl fd_86_1) rfl fun a hf => oW hf (g := 33) rfl rfl <| oR hf (rL hw hf rfl ty_9 0 rfl rfl) rfl fun a hf => oW hf (g := 33) rfl rfl ?_
        obtain ⟨y170, hy171, hp⟩ := bS hp
        have hc173 := nibble_Good_ok hw hG hy171
        refine o_call hf cb_97 rfl rfl hc173 (fun v175 w a hK174 hf => ?_)
        obtain ⟨rfl, hw⟩ := hK174
        refine oW hf (g := 33) rfl rfl <| oR hf (r_not hf rfl) rfl fun a hf => oR hf (pF hf rfl rfl) rfl fun a hf => oN <| ct ?_
        have ho := oI hp
        subst ho
        exact ⟨(!y170), rfl, hw, hf.to ⟨rfl, rfl, trivial⟩⟩
      ·replace hp := cond_f hb168 hp
       refine oQ hf (g := 27) rfl fun a hf => oQ hf (g := 27) rfl fun a hf => oQ hf (g := 27) rfl fun a hf => oW hf (g := 23) rfl rfl <| oR hf (pF hf rfl rfl) rfl fun a hf => oR hf (pF hf rfl rfl) rfl fun a hf => om hf rfl rfl fun a hf => oW hf (g := 33) rfl rfl <| oR hf (rF hf rfl fd_86_1) rfl fun a hf => oW hf (g := 33) rfl rfl <| oR hf (rL hw hf rfl ty_9 0 rfl rfl) rfl fun a hf => oW hf (g := 33) rfl rfl ?_
       obtain ⟨y176, hy177, hp⟩ := bS hp
       have hc179 := nibble_Good_ok hw hG hy177
       refine o_call hf cb_97 rfl rfl hc179 (fun v181 w a hK180 hf => ?_)
       obtain ⟨rfl, hw⟩ := hK180
       refine oW hf (g := 33) rfl rfl <| oR hf (r_not hf rfl) rfl fun a hf => oR hf (pF hf rfl rfl) rfl fun a hf => oN <| ct ?_
       have ho := oI hp
       subst ho
       exact ⟨(!y176), rfl, hw, hf.to ⟨rfl, rfl, trivial⟩⟩
 ·intro a w hM
  obtain ⟨y155, rfl, hw, hf⟩ := hM
  replace hp := hq157
  refine cC hf rfl (fun hb182 => ?_) (fun hb182 => ?_)
  ·replace hp := cond_t hb182 hp
   refine wq <| wr <| oa hf rfl rfl fun a hf => oN <| ct <| wp_ret <| c_thenR ?_
   replace hw : Ok E I (F) w := hw.sub (sc sr)
   have ho := oI hp
   subst ho
   exact b_ret1 hf results64 rfl ⟨_, rfl, ⟨rfl, hw⟩⟩
  ·replace hp := cond_f hb182 hp
   refine wp_skip <| ct <| wq <| wq <| wr <| oR hf (rF hf rfl fd_86_0) rfl fun a hf => oR hf (rL hw hf rfl ty_3 0 rfl rfl) rfl fun a hf => oR hf (rF hf rfl fd_86_1) rfl fun a hf => oR hf (rL hw hf rfl ty_9 0 rfl rfl) rfl fun a hf => oR hf (rF hf rfl fd_86_2) rfl fun a hf => oR hf (rL hw hf rfl ty_4 0 rfl rfl) rfl fun a hf => oR hf (rF hf rfl fd_86_3) rfl fun a hf => oR hf (rL hw hf rfl ty_9 0 rfl rfl) rfl fun a hf => oR hf (rF hf rfl fd_86_4) rfl fun a hf => oR hf (rL hw hf rfl ty_3 0 rfl rfl) rfl fun a hf => oR hf (r_build hf bd_197 (vs := [.int .i64 a0.kind_, .string a0.path_, .bool a0.has_, .string a0.value_, .int .i64 a0.mask_]) rfl ⟨rfl, rfl, rfl, rfl, rfl, trivial⟩ (by decide) (out := [.int .i64 a0.kind_, .string a0.path_, .bool a0.has_, .string a0.value_, .int .i64 a0.mask_]) rfl) rfl fun a hf => ?_
   obtain ⟨b183, w, hrun184, hw⟩ := e_alloc (P := P) (a := a) hw ty_197
   refine o_eff hf (hrun184 ..) rfl fun a hf => ?_
   obtain ⟨w, hrun186, hw⟩ := e_store (P := P) hw hf (x := .tmp 3) (y := .tmp 49) rfl rfl ty_197 0 rfl (vs := [.int .i64 a0.kind_, .string a0.path_, .bool a0.has_, .string a0.value_, .int .i64 a0.mask_]) rfl rfl (oC rfl (oC rfl (oC rfl (oC rfl (oC rfl ones_nil))))) (by simp [arrC_len]) (cs' := [.int .i64 a0.kind_, .string a0.path_, .bool a0.has_, .string a0.value_, .int .i64 a0.mask_]) rfl
   dsimp only [List.set] at hw
   refine o_effU (hrun186 ..) <| oN <| ct <| wq <| wr <| oR hf (rF hf rfl fd_86_0) rfl fun a hf => oR hf (rL hw hf rfl ty_3 1 rfl rfl) rfl fun a hf => oN <| ct <| wp_block <| wq <| wr <| oR hf (iC hf rfl rfl rfl) rfl fun a hf => oa hf rfl rfl fun a hf => oN <| ct ?_
   refine cC hf rfl (fun hb187 => ?_) (fun hb187 => ?_)
   ·replace hp := cond_t hb187 hp
    refine wq <| wr <| oR hf (r_loadA hw hf rfl ty_197 0 rfl (vs := [.int .i64 a0.kind_, .string a0.path_, .bool a0.has_, .string a0.value_, .int .i64 a0.mask_]) rfl rfl) rfl fun a hf => oR hf (rF hf rfl fd_86_1) rfl fun a hf => oR hf (rL hw hf rfl ty_9 1 rfl rfl) rfl fun a hf => oR hf (rF hf rfl fd_86_3) rfl fun a hf => oR hf (rL hw hf rfl ty_9 1 rfl rfl) rfl fun a hf => oR hf (r_build hf bd_197 (vs := [.int .i64 1, .string a0.path_, .bool true, .string a0.value_]) rfl ⟨rfl, rfl, rfl, rfl, trivial⟩ (by decide) (out := [.int .i64 1, .string a0.path_, .bool true, .string a0.value_, .int .i64 0]) rfl) rfl fun a hf => oR hf (r_eql_node_face_T hf (x := (⟨a0.kind_, a0.path_, a0.has_, a0.value_, a0.mask_⟩ : node_face_T)) (y := (⟨1, a0.path_, true, a0.value_, 0⟩ : node_face_T)) rfl rfl) rfl fun a hf => oa hf rfl rfl fun a hf => oN <| ct <| wp_ret <| c_blockR <| c_thenR ?_
    replace hw : Ok E I (F) w := hw.sub (sc (sc sr))
    have ho := oI hp
    subst ho
    exact b_ret1 hf results64 rfl ⟨_, rfl, ⟨rfl, hw⟩⟩
   ·replace hp := cond_f hb187 hp
    refine wq <| wr <| oR hf (iC hf rfl rfl rfl) rfl fun a hf => oa hf rfl rfl fun a hf => oN <| ct <| cC hf rfl (fun hb188 => ?_) (fun hb188 => ?_)
    ·replace hp := cond_t hb188 hp
     obtain ⟨out192, hp, hq193⟩ := bS hp
     refine c_cut (fun a w => ∃ y191 : Bool, y191 = out192 ∧ Ok E I (.blk b183 (.cells ⟨[.int .i64 a0.kind_, .string a0.path_, .bool a0.has_, .string a0.value_, .int .i64 a0.mask_]⟩ 197 (0, 0)) :: .blk b1 (.cells ⟨[.int .i64 a0.kind_, .string a0.path_, .bool a0.has_, .string a0.value_, .int .i64 a0.mask_, a0v4]⟩ 86 (0, 0)) :: F) w ∧ Fr 94 ([(2, .bool y191)]) a) ?_ ?_
     ·refine wr <| oR hf (r_loadA hw hf rfl ty_197 0 rfl (vs := [.int .i64 a0.kind_, .string a0.path_, .bool a0.has_, .string a0.value_, .int .i64 a0.mask_]) rfl rfl) rfl fun a hf => oR hf (rF hf rfl fd_86_1) rfl fun a hf => oR hf (rL hw hf rfl ty_9 1 rfl rfl) rfl fun a hf => oR hf (r_build hf bd_197 (vs := [.int .i64 2, .string a0.path_, .int .i64 1]) rfl ⟨rfl, rfl, rfl, trivial⟩ (by decide) (out := [.int .i64 2, .string a0.path_, .bool false, .string e0, .int .i64 1]) rfl) rfl fun a hf => oR hf (r_eql_node_face_T hf (x := (⟨a0.kind_, a0.path_, a0.has_, a0.value_, a0.mask_⟩ : node_face_T)) (y := (⟨2, a0.path_, false, e0, 1⟩ : node_face_T)) rfl rfl) rfl fun a hf => om hf rfl rfl fun a hf => g_split hf (g := 68) rfl (fun hb194 hf => ?_) (fun hb194 hf => ?_)
      ·replace hp := cond_t hb194 hp
       refine oW hf (g := 68) rfl rfl <| oR hf (rF hf rfl fd_86_1) rfl fun a hf => oW hf (g := 68) rfl rfl <| oR hf (rL hw hf rfl ty_9 1 rfl rfl) rfl fun a hf => oW hf (g := 68) rfl rfl <| oR hf (r_scmp hf rfl rfl rfl) rfl fun a hf => oR hf (pT hf rfl rfl) rfl fun a hf => oa hf rfl rfl fun a hf => oN <| ct ?_
       have ho := oI hp
       subst ho
       exact ⟨(!(seq_ a0.path_ e0)), rfl, hw, hf.to ⟨rfl, trivial⟩⟩
      ·replace hp := cond_f hb194 hp
       refine oQ hf (g := 68) rfl fun a hf => oQ hf (g := 68) rfl fun a hf => oQ hf (g := 68) rfl fun a hf => oR hf (pF hf rfl rfl) rfl fun a hf => oa hf rfl rfl fun a hf => oN <| ct ?_
       have ho := oI hp
       subst ho
       exact ⟨false, rfl, hw, hf.to ⟨rfl, trivial⟩⟩
     ·intro a w hM
      obtain ⟨y191, rfl, hw, hf⟩ := hM
      replace hp := hq193
      refine wp_ret <| c_blockR <| c_thenR ?_
      replace hw : Ok E I (F) w := hw.sub (sc (sc sr))
      have ho := oI hp
      subst ho
      exact b_ret1 hf results64 rfl ⟨_, rfl, ⟨rfl, hw⟩⟩
    ·replace hp := cond_f hb188 hp
     refine wq <| wr <| oR hf (iC hf rfl rfl rfl) rfl fun a hf => oa hf rfl rfl fun a hf => oN <| ct <| cC hf rfl (fun hb195 => ?_) (fun hb195 => ?_)
     ·replace hp := cond_t hb195 hp
      obtain ⟨out203, hp, hq204⟩ := bS hp
      refine c_cut (fun a w => ∃ y202 : Bool, y202 = out203 ∧ Ok E I (.blk b183 (.cells ⟨[.int .i64 a0.kind_, .string a0.path_, .bool a0.has_, .string a0.value_, .int .i64 a0.mask_]⟩ 197 (0, 0)) :: .blk b1 (.cells ⟨[.int .i64 a0.kind_, .string a0.path_, .bool a0.has_, .string a0.value_, .int .i64 a0.mask_, a0v4]⟩ 86 (0, 0)) :: F) w ∧ Fr 94 ([(2, .bool y202)]) a) ?_ ?_
      ·refine wr <| oR hf (rF hf rfl fd_86_1) rfl fun a hf => oR hf (rL hw hf rfl ty_9 1 rfl rfl) rfl fun a hf => oR hf (r_scmp hf rfl rfl rfl) rfl fun a hf => om hf rfl rfl fun a hf => g_split hf (g := 78) rfl (fun hb205 hf => ?_) (fun hb205 hf => ?_)
       ·replace hp := cond_t hb205 hp
        refine oW hf (g := 78) rfl rfl <| oR hf (rF hf rfl fd_86_5) rfl fun a hf => oW hf (g := 78) rfl rfl <| oR hf (rL hw hf rfl ty_28 1 rfl rfl) rfl fun a hf => oW hf (g := 78) rfl rfl <| oR hf (r_lenL (K := ekS) hf el_28 rfl (hR5.rd hw)) rfl fun a hf => oW hf (g := 78) rfl rfl <| oR hf (iC hf rfl rfl rfl) rfl fun a hf => oW hf (g := 78) rfl rfl <| om hf rfl rfl fun a hf => g_split hf (g := 83) rfl (fun hb206 hf => ?_) (fun hb206 hf => ?_)
        ·replace hp := cond_t hb206 hp
         refine oQ hf (g := 83) rfl fun a hf => oQ hf (g := 83) rfl fun a hf => oQ hf (g := 83) rfl fun a hf => o_skipU hf (g := 86) rfl rfl rfl rfl rfl fun a hf => o_skipU hf (g := 86) rfl rfl rfl rfl rfl fun a hf => o_skipU hf (g := 86) rfl rfl rfl rfl rfl fun a hf => o_skipU hf (g := 86) rfl rfl rfl rfl rfl fun a hf => oQ hf (g := 83) rfl fun a hf => oW hf (g := 78) rfl rfl <| oR hf (pT hf rfl rfl) rfl fun a hf => oR hf (pT hf rfl rfl) rfl fun a hf => oa hf rfl rfl fun a hf => oN <| ct ?_
         have ho := oI hp
         subst ho
         exact ⟨true, rfl, hw, hf.to ⟨rfl, trivial⟩⟩
        ·replace hp := cond_f hb206 hp
         refine oW hf (g := 83) rfl rfl <| oR hf (rF hf rfl fd_86_2) rfl fun a hf => oW hf (g := 83) rfl rfl <| oR hf (rL hw hf rfl ty_4 1 rfl rfl) rfl fun a hf => oW hf (g := 83) rfl rfl <| om hf rfl rfl fun a hf => g_split hf (g := 86) rfl (fun hb207 hf => ?_) (fun hb207 hf => ?_)
         ·replace hp := cond_t hb207 hp
          refine oW hf (g := 86) rfl rfl <| oR hf (rF hf rfl fd_86_5) rfl fun a hf => oW hf (g := 86) rfl rfl <| oR hf (rL hw hf rfl ty_28 1 rfl rfl) rfl fun a hf => oW hf (g := 86) rfl rfl <| oR hf (r_lenL (K := ekS) hf el_28 rfl (hR5.rd hw)) rfl fun a hf => oW hf (g := 86) rfl rfl <| oR hf (iC hf rfl rfl rfl) rfl fun a hf => oW hf (g := 83) rfl rfl <| oR hf (pT hf rfl rfl) rfl fun a hf => oW hf (g := 78) rfl rfl <| oR hf (pF hf rfl rfl) rfl fun a hf => oR hf (pT hf rfl rfl) rfl fun a hf => oa hf rfl rfl fun a hf => oN <| ct ?_
          have ho := oI hp
          subst ho
          exact ⟨(decide ((a0.hashes_.length : Int) > 0)), rfl, hw, hf.to ⟨rfl, trivial⟩⟩
         ·replace hp := cond_f hb207 hp
          refine oQ hf (g := 86) rfl fun a hf => oQ hf (g := 86) rfl fun a hf => oQ hf (g := 86) rfl fun a hf => oQ hf (g := 86) rfl fun a hf => oW hf (g := 83) rfl rfl <| oR hf (pF hf rfl rfl) rfl fun a hf => oW hf (g := 78) rfl rfl <| oR hf (pF hf rfl rfl) rfl fun a hf => oR hf (pT hf rfl rfl) rfl fun a hf => oa hf rfl rfl fun a hf => oN <| ct ?_
          have ho := oI hp
          subst ho
          exact ⟨false, rfl, hw, hf.to ⟨rfl, trivial⟩⟩
       ·replace hp := cond_f hb205 hp
        refine oQ hf (g := 78) rfl fun a hf => oQ hf (g := 78) rfl fun a hf => oQ hf (g := 78) rfl fun a hf => oQ hf (g := 78) rfl fun a hf => oQ hf (g := 78) rfl fun a hf => o_skipU hf (g := 83) rfl rfl rfl rfl rfl fun a hf => o_skipU hf (g := 83) rfl rfl rfl rfl rfl fun a hf => o_skipU hf (g := 83) rfl rfl rfl rfl rfl fun a hf => o_skipU hf (g := 86) rfl rfl rfl rfl rfl fun a hf => o_skipU hf (g := 86) rfl rfl rfl rfl rfl fun a hf => o_skipU hf (g := 86) rfl rfl rfl rfl rfl fun a hf => o_skipU hf (g := 86) rfl rfl rfl rfl rfl fun a hf => o_skipU hf (g := 83) rfl rfl rfl rfl rfl fun a hf => oQ hf (g := 78) rfl fun a hf => oR hf (pF hf rfl rfl) rfl fun a hf => oa hf rfl rfl fun a hf => ?_
        refine oN <| ct ?_
        have ho := oI hp
        subst ho
        exact ⟨false, rfl, hw, hf.to ⟨rfl, trivial⟩⟩
      ·intro a w hM
       obtain ⟨y202, rfl, hw, hf⟩ := hM
       replace hp := hq204
       refine wp_ret <| c_blockR <| c_thenR ?_
       replace hw : Ok E I (F) w := hw.sub (sc (sc sr))
       have ho := oI hp
       subst ho
       exact b_ret1 hf results64 rfl ⟨_, rfl, ⟨rfl, hw⟩⟩
     ·replace hp := cond_f hb195 hp
      refine wp_skip <| c_blockN <| ct <| wq <| wr <| oa hf rfl rfl fun a hf => oN <| ct <| wp_ret ?_
      replace hw : Ok E I (F) w := hw.sub (sc (sc sr))
      have ho := oI hp
      subst ho
      exact b_ret1 hf results64 rfl ⟨_, rfl, ⟨rfl, hw⟩⟩

theorem nibble_two_ok {E : World} {I : IH} {F : List Atom} {w : World} {a0 : ByteArray} {res0 : ByteArray} (hw : Ok E I (F) w) (hG : Gl I) (hp : nibble_two.f a0 = some res0) :
  Calls P 98 ⟨[Value.string a0]⟩ w fun e w' => ∃ v, e = .returned v ∧ v = Value.string res0 ∧ Ok E I (F) w' := by
 refine c_enter func98 rfl ntmps98 rfl fun a hf => ?_
 replace hf : Fr 35 [(0, .string a0)] a := hf
 unfold nibble_two.f at hp
 refine wq <| wr <| oa hf rfl rfl fun a hf => oN <| ct <| wq <| wr <| om hf rfl rfl fun a hf => oR hf (r_lenS hf und_9 rfl) rfl fun a hf => oR hf (r_add hf rfl rfl) rfl fun a hf => oR hf (r_quo hf rfl rfl (by decide)) rfl fun a hf => ?_
 obtain ⟨hg1, hp⟩ := gS hp
 obtain ⟨w, v2, cs5, hrun3, hw, hRR4⟩ := e_makeSlice (P := P) (K := (ekI .u8)) hw hf (l := .tmp 9) (c := .tmp 9) el_45 ty_5 rfl (by decide) rfl rfl (x := 0) (fun _ => rfl) hg1
 refine o_eff hf (hrun3 ..) rfl fun a hf => oa hf rfl rfl fun a hf => oN <| ct <| wq <| wq <| wr <| om hf rfl rfl fun a hf => oR hf (r_lenS hf und_9 rfl) rfl fun a hf => om hf rfl rfl fun a hf => oN <| ct ?_
 obtain ⟨out54, hp, hq55⟩ := bS hp
 refine c_cutX (fun a w => ∃ y49 : List Int, ∃ yv50 : Value, ∃ m51 : Nat, ∃ cs52 : List Value, y49 = out54 ∧ Ok E I (.row yv50 5 1 m51 cs52 :: F) w ∧ Fr 35 ([(3, yv50)]) a ∧ RowR (ekI .u8) I cs52 y49) ?_ ?_
 ·refine wp_block <| c_loop <| c_fuel (nibble_two.l0 a0) out54 (fun (y33, y38) a w => ∃ yv34 : Value, ∃ m35 : Nat, ∃ cs36 : List Value, Ok E I (.row yv34 5 1 m35 cs36 :: F) w ∧ Fr 35 ([(0, .string a0), (3, yv34), (12, .int .i64 (a0.size : Int)), (13, .int .i64 y38)]) a ∧ RowR (ekI .u8) I cs36 y33) (fun _ => rfl) ?_ BIG (List.replicate (w64 ((w64 ((a0.size : Int) + 1)).tdiv 2)).toNat 0, 0) _ _ ⟨v2, ((w64 ((w64 ((a0.size : Int) + 1)).tdiv 2)).toNat), cs5, hw, hf.to ⟨rfl, rfl, rfl, rfl, trivial⟩, hRR4⟩ hp
  intro k st a w hI hp ih
  obtain ⟨y33, y38⟩ := st
  obtain ⟨yv34, m35, cs36, hw, hf, hRR37⟩ := hI
  rw [nibble_two.l0] at hp
  refine wq <| wr <| oR hf (iC hf rfl rfl rfl) rfl fun a hf => oN <| ct <| wq <| cC hf rfl (fun hb57 => ?_) (fun hb57 => ?_)
  ·replace hp := cond_t hb57 hp
   refine wp_skip <| ct <| wq <| wp_block <| wq <| wr <| om hf rfl rfl fun a hf => oa hf rfl rfl fun a hf => oN <| ct <| wq <| wr <| oR hf (r_buildArr hf el_244 ty_244 rfl rfl rfl (v := (#v[4, 0] : Vector Int 2)) rfl) rfl fun a hf => om hf rfl rfl fun a hf => oR hf (r_rem hf rfl rfl (by decide)) rfl fun a hf => ?_
   obtain ⟨hg58, hp⟩ := gS hp
   refine oR hf (r_indexArr hf el_244 ty_3 rfl rfl hg58) rfl fun a hf => oa hf rfl rfl fun a hf => oN <| ct <| c_drawn mix [12] (.rd 0 (.rd 1 (.rd 2 (.rd 3 (.rd 4 (.rd 5 (.rd 6 (.rd 7 (.rd 8 (.rd 9 (.rd 10 (.rd 11 (.ef 12 .done))))))))))))) (by kernel_rfl) hw (fun w => Ok E I (.row yv34 5 1 m35 cs36 :: F) w) (fun w hw => ⟨hw.sub (scc sr), ?_⟩)
   refine tm rfl hf rfl rfl fun a hf => tm rfl hf rfl rfl fun a hf => tR rfl hf (fun w hw => r_quo hf rfl rfl (by decide)) rfl fun a hf => ?_
   obtain ⟨hg60, hp⟩ := gS hp
   refine tR rfl hf (fun w hw => rI (K := (ekI .u8)) hf el_45 rfl rfl (rR (K := (ekI .u8)) hw (i := 0) rfl hRR37) hg60) rfl fun a hf => tR rfl hf (fun w hw => r_loadH (K := (ekI .u8)) hf rfl ty_5 (rR (K := (ekI .u8)) hw (i := 0) rfl hRR37) hg60 rfl (fun cs h => ekI_f0 h)) rfl fun a hf => tm rfl hf rfl rfl fun a hf => tm rfl hf rfl rfl fun a hf => ?_
   obtain ⟨hg61, hp⟩ := gS hp
   refine tR rfl hf (fun w hw => r_indexS hf und_9 rfl rfl hg61) rfl fun a hf => tm rfl hf rfl rfl fun a hf => ?_
   obtain ⟨hg62, hp⟩ := gS hp
   refine tR rfl hf (fun w hw => r_shl hf rfl rfl hg62) rfl fun a hf => tR rfl hf (fun w hw => r_or hf rfl rfl) rfl fun a hf => ?_
   obtain ⟨hg63, hp⟩ := gS hp
   refine tR rfl hf (fun w hw => rI (K := (ekI .u8)) hf el_45 rfl rfl (rR (K := (ekI .u8)) hw (i := 0) rfl hRR37) hg63) rfl fun a hf => t_ef rfl ?_
   obtain ⟨w, cs65, hrun64, hw, hRR66⟩ := e_storeH (P := P) (K := (ekI .u8)) hw hf (x := .tmp 31) (y := .tmp 30) rfl rfl ty_5 0 rfl hRR37 hg63 rfl (vs := [.int .u8 (bor .u8 (gt y33 (w64 (y38.tdiv 2))) (shl .u8 (bt a0 y38) (vg (#v[4, 0] : Vector Int 2) (y38.tmod 2))))]) (oE rfl) rfl (oC rfl ones_nil) (Nat.le_of_eq (by rfl)) (x' := bor .u8 (gt y33 (w64 (y38.tdiv 2))) (shl .u8 (bt a0 y38) (vg (#v[4, 0] : Vector Int 2) (y38.tmod 2)))) (whole_store rfl)
   replace hw : Ok E I (.row yv34 5 1 m35 cs65 :: F) w := hw
   refine t_effU (hrun64 ..) ⟨.inl rfl, ?_⟩
   refine t_done <| c_blockN <| ct <| wr <| oR hf (r_add hf rfl rfl) rfl fun a hf => om hf rfl rfl fun a hf => oN <| ct ?_
   exact ih (y33.set (w64 (y38.tdiv 2)).toNat (bor .u8 (gt y33 (w64 (y38.tdiv 2))) (shl .u8 (bt a0 y38) (vg (#v[4, 0] : Vector Int 2) (y38.tmod 2)))), w64 (y38 + 1)) _ _ ⟨yv34, m35, cs65, hw, hf.to ⟨rfl, rfl, rfl, rfl, trivial⟩, hRR66⟩ hp
  ·replace hp := cond_f hb57 hp
   refine wp_exit <| c_thenE <| c_thenE <| c_exit <| ct ?_
   have ho := oI hp
   subst ho
   exact ⟨y33, yv34, m35, cs36, rfl, hw, hf.to ⟨rfl, trivial⟩, hRR37⟩
 ·intro a w hM
  obtain ⟨y49, yv50, m51, cs52, rfl, hw, hf, hRR53⟩ := hM
  replace hp := hq55
  refine ct <| wq <| wr <| om hf rfl rfl fun a hf => oR hf (r_convB hf und_45 und_5 und_9 rfl (rR (K := (ekI .u8)) hw (i := 0) rfl hRR53)) rfl fun a hf => oa hf rfl rfl fun a hf => oN <| ct <| wp_ret ?_
  replace hw : Ok E I (F) w := hw.sub (sc sr)
  have ho := oI hp
  subst ho
  exact b_ret1 hf results98 rfl ⟨_, rfl, ⟨rfl, hw⟩⟩

theorem nibble_Pack_ok {E : World} {I : IH} {F : List Atom} {w : World} {a0 : ByteArray} {res0 : ByteArray} {res1 : Bool} (hw : Ok E I (F) w) (hG : Gl I) (hp : nibble_Pack.f a0 = some (res0, res1)) :
  Calls P 65 ⟨[Value.string a0]⟩ w fun e w' => ∃ v, e = .returned v ∧ v = Value.tuple ⟨[Value.string res0, Value.bool res1]⟩ ∧ Ok E I (F) w' := by
 refine c_enter func65 rfl ntmps65 rfl fun a hf => ?_
 replace hf : Fr 15 [(0, .string a0)] a := hf
 unfold nibble_Pack.f at hp
 refine wq <| wr <| oa hf rfl rfl fun a hf => oa hf rfl rfl fun a hf => oN <| ct <| wq <| wq <| wr <| om hf rfl rfl fun a hf => ?_
 obtain ⟨y1, hy2, hp⟩ := bS hp
 have hc4 := nibble_Good_ok hw hG hy2
 refine o_call hf cb_97 rfl rfl hc4 (fun v6 w a hK5 hf => ?_)
 obtain ⟨rfl, hw⟩ := hK5
 refine oR hf (r_not hf rfl) rfl fun a hf => oN <| ct <| cC hf rfl (fun hb7 => ?_) (fun hb7 => ?_)
 ·replace hp := cond_t hb7 hp
  refine wq <| wr <| oa hf rfl rfl fun a hf => oa hf rfl rfl fun a hf => oN <| ct <| wp_ret <| c_thenR ?_
  have ho := oI hp
  simp only [Prod.mk.injEq] at ho
  obtain ⟨rfl, rfl⟩ := ho
  exact b_ret2 hf results65 rfl rfl ⟨_, rfl, ⟨rfl, hw⟩⟩
 ·replace hp := cond_f hb7 hp
  refine wp_skip <| ct <| wq <| c_drawn mix [] (.rd 0 (.rd 1 (.rd 2 (.rd 5 (.ef2 3 (.ef2 4 (.ef 6 (.rd 7 (.rd 8 (.rd 9 .done)))) 6 (.ef 4 (.rd 7 (.rd 8 (.rd 9 .done))))) 6 (.ef 3 (.ef 4 (.rd 7 (.rd 8 (.rd 9 .done)))))))))) (by kernel_rfl) hw (fun w => Ok E I (F) w) (fun w hw => ⟨hw.sub sr, ?_⟩)
  refine tm rfl hf rfl rfl fun a hf => tR rfl hf (fun w hw => r_lenS hf und_9 rfl) rfl fun a hf => tR rfl hf (fun w hw => r_convI hf und_3 und_5 rfl) rfl fun a hf => tm rfl hf rfl rfl fun a hf => t_ef2 rfl rfl ?_ ?_
  ·obtain ⟨w, v9, hrun10, hw, hRR11⟩ := e_buildSlice (P := P) (K := (ekI .u8)) (m := 1) hw hf (parts := [(0, .tmp 9)]) el_45 ty_5 rfl rfl rfl (ccs := [[Value.int .u8 (wu8 (a0.size : Int))]]) rfl (xs := [wu8 (a0.size : Int)]) ⟨rfl, trivial⟩ rfl
   obtain ⟨cs12, hcs⟩ : ∃ cs, cs = ([[Value.int .u8 (wu8 (a0.size : Int))]] : List (List Value)).flatten := ⟨_, rfl⟩
   rw [← hcs] at hw hRR11; clear hcs
   refine t_eff hf (hrun10 ..) rfl fun a hf => ⟨.inr (hw.back (IH.le_refl _) (sc sr)), ?_⟩
   refine t_ef2 rfl rfl ?_ ?_
   ·refine t_eff hf (r_convB hf und_45 und_5 und_9 rfl (rR (K := (ekI .u8)) hw (i := 0) rfl hRR11)) rfl fun a hf => ⟨.inr (hw.back (IH.le_refl _) (sc sr)), ?_⟩
    refine t_ef rfl ?_
    obtain ⟨y68, hy69, hp⟩ := bS hp
    have hc71 := nibble_two_ok hw hG hy69
    refine t_call hf cb_98 rfl rfl hc71 (fun v73 w a hK72 hf => ?_)
    obtain ⟨rfl, hw⟩ := hK72
    refine ⟨.inr (hw.back (IH.le_refl _) (sc sr)), ?_⟩
    obtain ⟨hg74, hp⟩ := gS hp
    refine tR rfl hf (fun w hw => r_sadd hf rfl rfl hg74) rfl fun a hf => tR rfl hf (fun w hw => r_assign hf rfl) rfl fun a hf => tR rfl hf (fun w hw => r_assign hf rfl) rfl fun a hf => t_done <| ct <| wp_ret ?_
    replace hw : Ok E I (F) w := hw.sub (sc sr)
    have ho := oI hp
    simp only [Prod.mk.injEq] at ho
    obtain ⟨rfl, rfl⟩ := ho
    exact b_ret2 hf results65 rfl rfl ⟨_, rfl, ⟨rfl, hw⟩⟩
   ·obtain ⟨y75, hy76, hp⟩ := bS hp
    have hc78 := nibble_two_ok hw hG hy76
    refine t_call hf cb_98 rfl rfl hc78 (fun v80 w a hK79 hf => ?_)
    obtain ⟨rfl, hw⟩ := hK79
    refine ⟨.inr (hw.back (IH.le_refl _) (sc sr)), ?_⟩
    refine t_ef rfl <| t_eff hf (r_convB hf und_45 und_5 und_9 rfl (rR (K := (ekI .u8)) hw (i := 0) rfl hRR11)) rfl fun a hf => ⟨.inr (hw.back (IH.le_refl _) (sc sr)), ?_⟩
    obtain ⟨hg81, hp⟩ := gS hp
    refine tR rfl hf (fun w hw => r_sadd hf rfl rfl hg81) rfl fun a hf => tR rfl hf (fun w hw => r_assign hf rfl) rfl fun a hf => tR rfl hf (fun w hw => r_assign hf rfl) rfl fun a hf => t_done <| ct <| wp_ret ?_
    replace hw : Ok E I (F) w := hw.sub (sc sr)
    have ho := oI hp
    simp only [Prod.mk.injEq] at ho
    obtain ⟨rfl, rfl⟩ := ho
    exact b_ret2 hf results65 rfl rfl ⟨_, rfl, ⟨rfl, hw⟩⟩
  ·obtain ⟨y82, hy83, hp⟩ := bS hp
   have hc85 := nibble_two_ok hw hG hy83
   refine t_call hf cb_98 rfl rfl hc85 (fun v87 w a hK86 hf => ?_)
   obtain ⟨rfl, hw⟩ := hK86
   refine ⟨.inr (hw.back (IH.le_refl _) sr), ?_⟩
   refine t_ef rfl ?_
   obtain ⟨w, v88, hrun89, hw, hRR90⟩ := e_buildSlice (P := P) (K := (ekI .u8)) (m := 1) hw hf (parts := [(0, .tmp 9)]) el_45 ty_5 rfl rfl rfl (ccs := [[Value.int .u8 (wu8 (a0.size : Int))]]) rfl (xs := [wu8 (a0.size : Int)]) ⟨rfl, trivial⟩ rfl
   obtain ⟨cs91, hcs⟩ : ∃ cs, cs = ([[Value.int .u8 (wu8 (a0.size : Int))]] : List (List Value)).flatten := ⟨_, rfl⟩
   rw [← hcs] at hw hRR90; clear hcs
   refine t_eff hf (hrun89 ..) rfl fun a hf => ⟨.inr (hw.back (IH.le_refl _) (sc sr)), ?_⟩
   refine t_ef rfl <| t_eff hf (r_convB hf und_45 und_5 und_9 rfl (rR (K := (ekI .u8)) hw (i := 0) rfl hRR90)) rfl fun a hf => ⟨.inr (hw.back (IH.le_refl _) (sc sr)), ?_⟩
   obtain ⟨hg93, hp⟩ := gS hp
   refine tR rfl hf (fun w hw => r_sadd hf rfl rfl hg93) rfl fun a hf => tR rfl hf (fun w hw => r_assign hf rfl) rfl fun a hf => tR rfl hf (fun w hw => r_assign hf rfl) rfl fun a hf => t_done <| ct <| wp_ret ?_
   replace hw : Ok E I (F) w := hw.sub (sc sr)
   have ho := oI hp
   simp only [Prod.mk.injEq] at ho
   obtain ⟨rfl, rfl⟩ := ho
   exact b_ret2 hf results65 rfl rfl ⟨_, rfl, ⟨rfl, hw⟩⟩

theorem node_value_ok {E : World} {I : IH} {F : List Atom} {w : World} {a0 : ByteArray} {res0 : ByteArray} (hw : Ok E I (F) w) (hG : Gl I) (hp : node_value.f a0 = some res0) :
  Calls P 67 ⟨[Value.string a0]⟩ w fun e w' => ∃ v, e = .returned v ∧ v = Value.string res0 ∧ Ok E I (F) w' := by
 refine c_enter func67 rfl ntmps67 rfl fun a hf => ?_
 replace hf : Fr 10 [(0, .string a0)] a := hf
 unfold node_value.f at hp
 refine wq <| wr <| oa hf rfl rfl fun a hf => oN <| ct <| wq <| wr <| om hf rfl rfl fun a hf => oR hf (r_lenS hf und_9 rfl) rfl fun a hf => oR hf (r_convI hf und_3 und_5 rfl) rfl fun a hf => ?_
 obtain ⟨w, v1, hrun2, hw, hRR3⟩ := e_buildSlice (P := P) (K := (ekI .u8)) (m := 1) hw hf (parts := [(0, .tmp 5)]) el_45 ty_5 rfl rfl rfl (ccs := [[Value.int .u8 (wu8 (a0.size : Int))]]) rfl (xs := [wu8 (a0.size : Int)]) ⟨rfl, trivial⟩ rfl
 obtain ⟨cs4, hcs⟩ : ∃ cs, cs = ([[Value.int .u8 (wu8 (a0.size : Int))]] : List (List Value)).flatten := ⟨_, rfl⟩
 rw [← hcs] at hw hRR3; clear hcs
 refine o_eff hf (hrun2 ..) rfl fun a hf => oR hf (r_convB hf und_45 und_5 und_9 rfl (rR (K := (ekI .u8)) hw (i := 0) rfl hRR3)) rfl fun a hf => om hf rfl rfl fun a hf => ?_
 obtain ⟨hg6, hp⟩ := gS hp
 refine oR hf (r_sadd hf rfl rfl hg6) rfl fun a hf => oa hf rfl rfl fun a hf => oN <| ct <| wp_ret ?_
 replace hw : Ok E I (F) w := hw.sub (sc sr)
 have ho := oI hp
 subst ho
 exact b_ret1 hf results67 rfl ⟨_, rfl, ⟨rfl, hw⟩⟩
end Go.Lf
