/- The Go functions compute the plain Lean functions (printed by our lift.py). -/
import Derived.Test.YtckhmgglgbnaaaaDoorZD
import Derived.Test.YtckhmgglgbnaaaaDoorZF
import Derived.Test.YtckhmgglgbnaaaaDoorJ
import Derived.Test.YtckhmgglgbnaaaaDoorZK8
import Derived.Test.YtckhmgglgbnaaaaDoorZK19
set_option linter.unusedVariables false
set_option linter.unusedSimpArgs false
set_option maxHeartbeats 1000000
set_option maxRecDepth 20000
namespace Go.Lf
open Go
theorem node_read_ok {E : World} {I : IH} {F : List Atom} {w : World} {a0 : ByteArray} {res0 : Item} (hw : Ok E I (F) w) (hG : Gl I) (hp : node_read.f a0 = some res0) :
  Calls P 60 ⟨[Value.string a0]⟩ w fun e w' => ∃ v, e = .returned v ∧ ∃ I2 : IH, ∃ rvv7813 : Value, v = Value.agg ⟨[Value.int .i64 res0.kind_, Value.string res0.path_, Value.bool res0.has_, Value.string res0.value_, Value.int .i64 res0.mask_, rvv7813]⟩ ∧ IH.le I I2 ∧ Ok E I2 (F) w' ∧ RS ekS I2 rvv7813 res0.hashes_ := by
 refine c_enter Go.Proofs.Tryd.func60 rfl Go.Proofs.Tryd.ntmps60 rfl fun a hf => ?_
 replace hf : Fr 57 [(0, .string a0)] a := hf
 unfold node_read.f at hp
 refine wq <| wr ?_
 obtain ⟨b1, w, hrun2, hw⟩ := e_alloc (P := P) (a := a) hw ty_32
 replace hw : Ok E I (.blk b1 (.cells ⟨[.int .i64 0, .string (⟨#[]⟩ : ByteArray), .bool false, .string (⟨#[]⟩ : ByteArray), .int .i64 0, .slice none 0 0]⟩ 32 (0, 0)) :: F) w := hw
 refine o_eff hf (hrun2 ..) rfl fun a hf => oN <| ct <| wq <| wr <| om hf rfl rfl fun a hf => oR hf (r_build hf bd_135 (vs := [Value.string a0]) rfl ⟨rfl, trivial⟩ (by decide) (out := [Value.string a0]) rfl) rfl fun a hf => ?_
 obtain ⟨b4, w, hrun5, hw⟩ := e_box (P := P) hw hf (e := 135) (x := .tmp 6) rfl (cs := [Value.string a0]) rfl
 refine o_eff hf (hrun5 ..) rfl fun a hf => oa hf rfl rfl fun a hf => oN <| ct <| wq <| wr <| om hf rfl rfl fun a hf => ?_
 replace hw : Ok E I (.blk b4 (.cells ⟨[.string a0]⟩ 135 (0, 0)) :: .blk b1 (.cells ⟨[.int .i64 0, .string (⟨#[]⟩ : ByteArray), .bool false, .string (⟨#[]⟩ : ByteArray), .int .i64 0, .slice none 0 0]⟩ 32 (0, 0)) :: F) w := hw.front (i := 0) rfl
 obtain ⟨y13, hy12, hp⟩ := bS hp
 obtain ⟨y10, y11⟩ := y13
 have hc14 := node_reader_number_ok hw hG hy12
 refine o_call hf cb_81 rfl rfl hc14 (fun v16 w a hK15 hf => ?_)
 obtain ⟨rfl, hw⟩ := hK15
 refine oR hf (r_build hf bd_32 (vs := [Value.int .i64 y10]) rfl ⟨rfl, trivial⟩ (by decide) (out := [Value.int .i64 y10, Value.string (⟨#[]⟩ : ByteArray), Value.bool false, Value.string (⟨#[]⟩ : ByteArray), Value.int .i64 0, Value.slice none 0 0]) rfl) rfl fun a hf => ?_
 obtain ⟨b17, w, hrun18, hw⟩ := e_alloc (P := P) (a := a) hw ty_32
 replace hw : Ok E I (.blk b17 (.cells ⟨[.int .i64 0, .string (⟨#[]⟩ : ByteArray), .bool false, .string (⟨#[]⟩ : ByteArray), .int .i64 0, .slice none 0 0]⟩ 32 (0, 0)) :: .blk b4 (.cells ⟨[.string y11]⟩ 135 (0, 0)) :: .blk b1 (.cells ⟨[.int .i64 0, .string (⟨#[]⟩ : ByteArray), .bool false, .string (⟨#[]⟩ : ByteArray), .int .i64 0, .slice none 0 0]⟩ 32 (0, 0)) :: F) w := hw
 refine o_eff hf (hrun18 ..) rfl fun a hf => ?_
 obtain ⟨w, hrun20, hw⟩ := e_store (P := P) hw hf (x := .tmp 4) (y := .tmp 10) rfl rfl ty_32 0 rfl (vs := [Value.int .i64 y10, Value.string (⟨#[]⟩ : ByteArray), Value.bool false, Value.string (⟨#[]⟩ : ByteArray), Value.int .i64 0, Value.slice none 0 0]) rfl rfl (oC rfl (oC rfl (oC rfl (oC rfl (oC rfl (oC rfl ones_nil)))))) (by simp [arrC_len]) (cs' := [Value.int .i64 y10, Value.string (⟨#[]⟩ : ByteArray), Value.bool false, Value.string (⟨#[]⟩ : ByteArray), Value.int .i64 0, Value.slice none 0 0]) rfl
 replace hw : Ok E I (.blk b17 (.cells ⟨[.int .i64 y10, .string (⟨#[]⟩ : ByteArray), .bool false, .string (⟨#[]⟩ : ByteArray), .int .i64 0, .slice none 0 0]⟩ 32 (0, 0)) :: .blk b4 (.cells ⟨[.string y11]⟩ 135 (0, 0)) :: .blk b1 (.cells ⟨[.int .i64 0, .string (⟨#[]⟩ : ByteArray), .bool false, .string (⟨#[]⟩ : ByteArray), .int .i64 0, .slice none 0 0]⟩ 32 (0, 0)) :: F) w := hw
 refine o_effU (hrun20 ..) <| oN <| ct ?_
 obtain ⟨out174, hp, hq175⟩ := bS hp
 refine c_cut (fun a w => ∃ y169 : ByteArray, ∃ y170 : Bool, ∃ y171 : ByteArray, ∃ y172 : Int, ∃ y173 : ByteArray, (y169, y170, y171, y172, y173) = out174 ∧ Ok E I (.blk b17 (.cells ⟨[.int .i64 y10, .string y169, .bool y170, .string y171, .int .i64 y172, .slice none 0 0]⟩ 32 (0, 0)) :: .blk b4 (.cells ⟨[.string y173]⟩ 135 (0, 0)) :: .blk b1 (.cells ⟨[.int .i64 0, .string (⟨#[]⟩ : ByteArray), .bool false, .string (⟨#[]⟩ : ByteArray), .int .i64 0, .slice none 0 0]⟩ 32 (0, 0)) :: F) w ∧ Fr 57 ([(2, .pointer (some ⟨b1, 0, none⟩)), (3, .pointer (some ⟨b4, 0, none⟩)), (4, .pointer (some ⟨b17, 0, none⟩))]) a) ?_ ?_
 ·refine wq <| wr <| oR hf (rF hf rfl fd_32_0) rfl fun a hf => oR hf (rL hw hf rfl ty_3 0 rfl rfl) rfl fun a hf => oN <| ct <| wp_block <| wq <| wr <| oR hf (iC hf rfl rfl rfl) rfl fun a hf => oa hf rfl rfl fun a hf => oN <| ct <| cC hf rfl (fun hb176 => ?_) (fun hb176 => ?_)
  ·replace hp := cond_t hb176 hp
   refine wq <| wr <| om hf rfl rfl fun a hf => ?_
   replace hw : Ok E I (.blk b4 (.cells ⟨[.string y11]⟩ 135 (0, 0)) :: .blk b17 (.cells ⟨[.int .i64 y10, .string (⟨#[]⟩ : ByteArray), .bool false, .string (⟨#[]⟩ : ByteArray), .int .i64 0, .slice none 0 0]⟩ 32 (0, 0)) :: .blk b1 (.cells ⟨[.int .i64 0, .string (⟨#[]⟩ : ByteArray), .bool false, .string (⟨#[]⟩ : ByteArray), .int .i64 0, .slice none 0 0]⟩ 32 (0, 0)) :: F) w := hw.front (i := 1) rfl
   obtain ⟨y180, hy179, hp⟩ := bS hp
   obtain ⟨y177, y178⟩ := y180
   have hc181 := node_reader_path_ok hw hG hy179
   refine o_call hf cb_82 rfl rfl hc181 (fun v183 w a hK182 hf => ?_)
   obtain ⟨rfl, hw⟩ := hK182
   refine oR hf (rF hf rfl fd_32_1) rfl fun a hf => ?_
   obtain ⟨w, hrun184, hw⟩ := e_store (P := P) hw hf (x := .tmp 17) (y := .tmp 16) rfl rfl ty_9 1 rfl (vs := [Value.string y177]) (oE rfl) rfl (oC rfl ones_nil) (by simp [arrC_len]) (cs' := [Value.int .i64 y10, Value.string y177, Value.bool false, Value.string (⟨#[]⟩ : ByteArray), Value.int .i64 0, Value.slice none 0 0]) rfl
   replace hw : Ok E I (.blk b4 (.cells ⟨[.string y178]⟩ 135 (0, 0)) :: .blk b17 (.cells ⟨[.int .i64 y10, .string y177, .bool false, .string (⟨#[]⟩ : ByteArray), .int .i64 0, .slice none 0 0]⟩ 32 (0, 0)) :: .blk b1 (.cells ⟨[.int .i64 0, .string (⟨#[]⟩ : ByteArray), .bool false, .string (⟨#[]⟩ : ByteArray), .int .i64 0, .slice none 0 0]⟩ 32 (0, 0)) :: F) w := hw
   refine o_effU (hrun184 ..) <| oR hf (rF hf rfl fd_32_2) rfl fun a hf => ?_
   obtain ⟨w, hrun185, hw⟩ := e_store (P := P) hw hf (x := .tmp 18) (y := .const (Value.bool true)) rfl rfl ty_4 1 rfl (vs := [Value.bool true]) (oE rfl) rfl (oC rfl ones_nil) (by simp [arrC_len]) (cs' := [Value.int .i64 y10, Value.string y177, Value.bool true, Value.string (⟨#[]⟩ : ByteArray), Value.int .i64 0, Value.slice none 0 0]) rfl
   replace hw : Ok E I (.blk b4 (.cells ⟨[.string y178]⟩ 135 (0, 0)) :: .blk b17 (.cells ⟨[.int .i64 y10, .string y177, .bool true, .string (⟨#[]⟩ : ByteArray), .int .i64 0, .slice none 0 0]⟩ 32 (0, 0)) :: .blk b1 (.cells ⟨[.int .i64 0, .string (⟨#[]⟩ : ByteArray), .bool false, .string (⟨#[]⟩ : ByteArray), .int .i64 0, .slice none 0 0]⟩ 32 (0, 0)) :: F) w := hw
   refine o_effU (hrun185 ..) <| oN <| ct <| wr <| om hf rfl rfl fun a hf => om hf rfl rfl fun a hf => ?_
   replace hw : Ok E I (.blk b4 (.cells ⟨[.string y178]⟩ 135 (0, 0)) :: .blk b17 (.cells ⟨[.int .i64 y10, .string y177, .bool true, .string (⟨#[]⟩ : ByteArray), .int .i64 0, .slice none 0 0]⟩ 32 (0, 0)) :: .blk b1 (.cells ⟨[.int .i64 0, .string (⟨#[]⟩ : ByteArray), .bool false, .string (⟨#[]⟩ : ByteArray), .int .i64 0, .slice none 0 0]⟩ 32 (0, 0)) :: F) w := hw.front (i := 0) rfl
   obtain ⟨y189, hy188, hp⟩ := bS hp
   obtain ⟨y186, y187⟩ := y189
   have hc190 := node_reader_number_ok hw hG hy188
   refine o_call hf cb_81 rfl rfl hc190 (fun v192 w a hK191 hf => ?_)
   obtain ⟨rfl, hw⟩ := hK191
   replace hw : Ok E I (.blk b4 (.cells ⟨[.string y187]⟩ 135 (0, 0)) :: .blk b17 (.cells ⟨[.int .i64 y10, .string y177, .bool true, .string (⟨#[]⟩ : ByteArray), .int .i64 0, .slice none 0 0]⟩ 32 (0, 0)) :: .blk b1 (.cells ⟨[.int .i64 0, .string (⟨#[]⟩ : ByteArray), .bool false, .string (⟨#[]⟩ : ByteArray), .int .i64 0, .slice none 0 0]⟩ 32 (0, 0)) :: F) w := hw.front (i := 0) rfl
   obtain ⟨y196, hy195, hp⟩ := bS hp
   obtain ⟨y193, y194⟩ := y196
   have hc197 := node_reader_take_ok hw hG hy195
   refine o_call hf cb_83 rfl rfl hc197 (fun v199 w a hK198 hf => ?_)
   obtain ⟨rfl, hw⟩ := hK198
   refine oR hf (rF hf rfl fd_32_3) rfl fun a hf => ?_
   obtain ⟨w, hrun200, hw⟩ := e_store (P := P) hw hf (x := .tmp 23) (y := .tmp 22) rfl rfl ty_9 1 rfl (vs := [Value.string y193]) (oE rfl) rfl (oC rfl ones_nil) (by simp [arrC_len]) (cs' := [Value.int .i64 y10, Value.string y177, Value.bool true, Value.string y193, Value.int .i64 0, Value.slice none 0 0]) rfl
   replace hw : Ok E I (.blk b4 (.cells ⟨[.string y194]⟩ 135 (0, 0)) :: .blk b17 (.cells ⟨[.int .i64 y10, .string y177, .bool true, .string y193, .int .i64 0, .slice none 0 0]⟩ 32 (0, 0)) :: .blk b1 (.cells ⟨[.int .i64 0, .string (⟨#[]⟩ : ByteArray), .bool false, .string (⟨#[]⟩ : ByteArray), .int .i64 0, .slice none 0 0]⟩ 32 (0, 0)) :: F) w := hw
   refine o_effU (hrun200 ..) <| oN <| c_blockN <| ct ?_
   have ho := oI hp
   subst ho
   replace hw : Ok E I (.blk b1 (.cells ⟨[.int .i64 0, .string (⟨#[]⟩ : ByteArray), .bool false, .string (⟨#[]⟩ : ByteArray), .int .i64 0, .slice none 0 0]⟩ 32 (0, 0)) :: .blk b4 (.cells ⟨[.string y194]⟩ 135 (0, 0)) :: .blk b17 (.cells ⟨[.int .i64 y10, .string y177, .bool true, .string y193, .int .i64 0, .slice none 0 0]⟩ 32 (0, 0)) :: F) w := hw.front (i := 2) rfl
   replace hw : Ok E I (.blk b4 (.cells ⟨[.string y194]⟩ 135 (0, 0)) :: .blk b1 (.cells ⟨[.int .i64 0, .string (⟨#[]⟩ : ByteArray), .bool false, .string (⟨#[]⟩ : ByteArray), .int .i64 0, .slice none 0 0]⟩ 32 (0, 0)) :: .blk b17 (.cells ⟨[.int .i64 y10, .string y177, .bool true, .string y193, .int .i64 0, .slice none 0 0]⟩ 32 (0, 0)) :: F) w := hw.front (i := 1) rfl
   replace hw : Ok E I (.blk b17 (.cells ⟨[.int .i64 y10, .string y177, .bool true, .string y193, .int .i64 0, .slice none 0 0]⟩ 32 (0, 0)) :: .blk b4 (.cells ⟨[.string y194]⟩ 135 (0, 0)) :: .blk b1 (.cells ⟨[.int .i64 0, .string (⟨#[]⟩ : ByteArray), .bool false, .string (⟨#[]⟩ : ByteArray), .int .i64 0, .slice none 0 0]⟩ 32 (0, 0)) :: F) w := hw.front (i := 2) rfl
   exact ⟨y177, true, y193, 0, y194, rfl, hw, hf.to ⟨rfl, rfl, rfl, trivial⟩⟩
  ·replace hp := cond_f hb176 hp
   refine wq <| wr <| oR hf (iC hf rfl rfl rfl) rfl fun a hf => oa hf rfl rfl fun a hf => oN <| ct <| cC hf rfl (fun hb201 => ?_) (fun hb201 => ?_)
   ·replace hp := cond_t hb201 hp
    refine wr <| om hf rfl rfl fun a hf => ?_
    replace hw : Ok E I (.blk b4 (.cells ⟨[.string y11]⟩ 135 (0, 0)) :: .blk b17 (.cells ⟨[.int .i64 y10, .string (⟨#[]⟩ : ByteArray), .bool false, .string (⟨#[]⟩ : ByteArray), .int .i64 0, .slice none 0 0]⟩ 32 (0, 0)) :: .blk b1 (.cells ⟨[.int .i64 0, .string (⟨#[]⟩ : ByteArray), .bool false, .string (⟨#[]⟩ : ByteArray), .int .i64 0, .slice none 0 0]⟩ 32 (0, 0)) :: F) w := hw.front (i := 1) rfl
    obtain ⟨y205, hy204, hp⟩ := bS hp
    obtain ⟨y202, y203⟩ := y205
    have hc206 := node_reader_path_ok hw hG hy204
    refine o_call hf cb_82 rfl rfl hc206 (fun v208 w a hK207 hf => ?_)
    obtain ⟨rfl, hw⟩ := hK207
    refine oR hf (rF hf rfl fd_32_1) rfl fun a hf => ?_
    obtain ⟨w, hrun209, hw⟩ := e_store (P := P) hw hf (x := .tmp 28) (y := .tmp 27) rfl rfl ty_9 1 rfl (vs := [Value.string y202]) (oE rfl) rfl (oC rfl ones_nil) (by simp [arrC_len]) (cs' := [Value.int .i64 y10, Value.string y202, Value.bool false, Value.string (⟨#[]⟩ : ByteArray), Value.int .i64 0, Value.slice none 0 0]) rfl
    replace hw : Ok E I (.blk b4 (.cells ⟨[.string y203]⟩ 135 (0, 0)) :: .blk b17 (.cells ⟨[.int .i64 y10, .string y202, .bool false, .string (⟨#[]⟩ : ByteArray), .int .i64 0, .slice none 0 0]⟩ 32 (0, 0)) :: .blk b1 (.cells ⟨[.int .i64 0, .string (⟨#[]⟩ : ByteArray), .bool false, .string (⟨#[]⟩ : ByteArray), .int .i64 0, .slice none 0 0]⟩ 32 (0, 0)) :: F) w := hw
    refine o_effU (hrun209 ..) <| oR hf (rF hf rfl fd_32_4) rfl fun a hf => ?_
    obtain ⟨w, hrun210, hw⟩ := e_store (P := P) hw hf (x := .tmp 29) (y := .const (Value.int .i64 1)) rfl rfl ty_3 1 rfl (vs := [Value.int .i64 1]) (oE rfl) rfl (oC rfl ones_nil) (by simp [arrC_len]) (cs' := [Value.int .i64 y10, Value.string y202, Value.bool false, Value.string (⟨#[]⟩ : ByteArray), Value.int .i64 1, Value.slice none 0 0]) rfl
    replace hw : Ok E I (.blk b4 (.cells ⟨[.string y203]⟩ 135 (0, 0)) :: .blk b17 (.cells ⟨[.int .i64 y10, .string y202, .bool false, .string (⟨#[]⟩ : ByteArray), .int .i64 1, .slice none 0 0]⟩ 32 (0, 0)) :: .blk b1 (.cells ⟨[.int .i64 0, .string (⟨#[]⟩ : ByteArray), .bool false, .string (⟨#[]⟩ : ByteArray), .int .i64 0, .slice none 0 0]⟩ 32 (0, 0)) :: F) w := hw
    refine o_effU (hrun210 ..) <| oN <| c_blockN <| ct ?_
    have ho := oI hp
    subst ho
    replace hw : Ok E I (.blk b1 (.cells ⟨[.int .i64 0, .string (⟨#[]⟩ : ByteArray), .bool false, .string (⟨#[]⟩ : ByteArray), .int .i64 0, .slice none 0 0]⟩ 32 (0, 0)) :: .blk b4 (.cells ⟨[.string y203]⟩ 135 (0, 0)) :: .blk b17 (.cells ⟨[.int .i64 y10, .string y202, .bool false, .string (⟨#[]⟩ : ByteArray), .int .i64 1, .slice none 0 0]⟩ 32 (0, 0)) :: F) w := hw.front (i := 2) rfl
    replace hw : Ok E I (.blk b4 (.cells ⟨[.string y203]⟩ 135 (0, 0)) :: .blk b1 (.cells ⟨[.int .i64 0, .string (⟨#[]⟩ : ByteArray), .bool false, .string (⟨#[]⟩ : ByteArray), .int .i64 0, .slice none 0 0]⟩ 32 (0, 0)) :: .blk b17 (.cells ⟨[.int .i64 y10, .string y202, .bool false, .string (⟨#[]⟩ : ByteArray), .int .i64 1, .slice none 0 0]⟩ 32 (0, 0)) :: F) w := hw.front (i := 1) rfl
    replace hw : Ok E I (.blk b17 (.cells ⟨[.int .i64 y10, .string y202, .bool false, .string (⟨#[]⟩ : ByteArray), .int .i64 1, .slice none 0 0]⟩ 32 (0, 0)) :: .blk b4 (.cells ⟨[.string y203]⟩ 135 (0, 0)) :: .blk b1 (.cells ⟨[.int .i64 0, .string (⟨#[]⟩ : ByteArray), .bool false, .string (⟨#[]⟩ : ByteArray), .int .i64 0, .slice none 0 0]⟩ 32 (0, 0)) :: F) w := hw.front (i := 2) rfl
    exact ⟨y202, false, (⟨#[]⟩ : ByteArray), 1, y203, rfl, hw, hf.to ⟨rfl, rfl, rfl, trivial⟩⟩
   ·replace hp := cond_f hb201 hp
    refine wq <| wr <| oR hf (iC hf rfl rfl rfl) rfl fun a hf => oa hf rfl rfl fun a hf => oN <| ct <| cC hf rfl (fun hb211 => ?_) (fun hb211 => ?_)
    ·replace hp := cond_t hb211 hp
     refine wq <| wr <| om hf rfl rfl fun a hf => ?_
     replace hw : Ok E I (.blk b4 (.cells ⟨[.string y11]⟩ 135 (0, 0)) :: .blk b17 (.cells ⟨[.int .i64 y10, .string (⟨#[]⟩ : ByteArray), .bool false, .string (⟨#[]⟩ : ByteArray), .int .i64 0, .slice none 0 0]⟩ 32 (0, 0)) :: .blk b1 (.cells ⟨[.int .i64 0, .string (⟨#[]⟩ : ByteArray), .bool false, .string (⟨#[]⟩ : ByteArray), .int .i64 0, .slice none 0 0]⟩ 32 (0, 0)) :: F) w := hw.front (i := 1) rfl
     obtain ⟨y215, hy214, hp⟩ := bS hp
     obtain ⟨y212, y213⟩ := y215
     have hc216 := node_reader_number_ok hw hG hy214
     refine o_call hf cb_81 rfl rfl hc216 (fun v218 w a hK217 hf => ?_)
     obtain ⟨rfl, hw⟩ := hK217
     refine oR hf (r_shl hf rfl rfl (by decide)) rfl fun a hf => oR hf (rF hf rfl fd_32_4) rfl fun a hf => ?_
     obtain ⟨w, hrun219, hw⟩ := e_store (P := P) hw hf (x := .tmp 35) (y := .tmp 34) rfl rfl ty_3 1 rfl (vs := [Value.int .i64 (shl .i64 y212 8)]) (oE rfl) rfl (oC rfl ones_nil) (by simp [arrC_len]) (cs' := [Value.int .i64 y10, Value.string (⟨#[]⟩ : ByteArray), Value.bool false, Value.string (⟨#[]⟩ : ByteArray), Value.int .i64 (shl .i64 y212 8), Value.slice none 0 0]) rfl
     replace hw : Ok E I (.blk b4 (.cells ⟨[.string y213]⟩ 135 (0, 0)) :: .blk b17 (.cells ⟨[.int .i64 y10, .string (⟨#[]⟩ : ByteArray), .bool false, .string (⟨#[]⟩ : ByteArray), .int .i64 (shl .i64 y212 8), .slice none 0 0]⟩ 32 (0, 0)) :: .blk b1 (.cells ⟨[.int .i64 0, .string (⟨#[]⟩ : ByteArray), .bool false, .string (⟨#[]⟩ : ByteArray), .int .i64 0, .slice none 0 0]⟩ 32 (0, 0)) :: F) w := hw
     refine o_effU (hrun219 ..) <| oN <| ct <| wq <| c_drawn mix [6] (.rd 0 (.rd 1 (.rd 2 (.ef 3 (.rd 4 (.rd 5 (.ef 6 .done))))))) (by kernel_rfl) hw (fun w => Ok E I (.blk b17 (.cells ⟨[.int .i64 y10, .string (⟨#[]⟩ : ByteArray), .bool false, .string (⟨#[]⟩ : ByteArray), .int .i64 (shl .i64 y212 8), .slice none 0 0]⟩ 32 (0, 0)) :: .blk b1 (.cells ⟨[.int .i64 0, .string (⟨#[]⟩ : ByteArray), .bool false, .string (⟨#[]⟩ : ByteArray), .int .i64 0, .slice none 0 0]⟩ 32 (0, 0)) :: F) w) (fun w hw => ⟨hw.sub (sc (scc (scc sr))), ?_⟩)
     refine tR rfl hf (fun w hw => rF hf rfl fd_32_4) rfl fun a hf => tR rfl hf (fun w hw => rL hw hf rfl ty_3 0 rfl rfl) rfl fun a hf => tm rfl hf rfl rfl fun a hf => t_ef rfl ?_
     replace hw : Ok E I (.blk b4 (.cells ⟨[.string y213]⟩ 135 (0, 0)) :: .blk b17 (.cells ⟨[.int .i64 y10, .string (⟨#[]⟩ : ByteArray), .bool false, .string (⟨#[]⟩ : ByteArray), .int .i64 (shl .i64 y212 8), .slice none 0 0]⟩ 32 (0, 0)) :: .blk b1 (.cells ⟨[.int .i64 0, .string (⟨#[]⟩ : ByteArray), .bool false, .string (⟨#[]⟩ : ByteArray), .int .i64 0, .slice none 0 0]⟩ 32 (0, 0)) :: F) w := hw.front (i := 0) rfl
     obtain ⟨y224, hy223, hp⟩ := bS hp
     obtain ⟨y221, y222⟩ := y224
     have hc225 := node_reader_number_ok hw hG hy223
     refine t_call hf cb_81 rfl rfl hc225 (fun v227 w a hK226 hf => ?_)
     obtain ⟨rfl, hw⟩ := hK226
     refine ⟨.inr (hw.back (IH.le_refl _) (sc (scc (scc sr)))), ?_⟩
     refine tR rfl hf (fun w hw => r_or hf rfl rfl) rfl fun a hf => tR rfl hf (fun w hw => rF hf rfl fd_32_4) rfl fun a hf => t_ef rfl ?_
     obtain ⟨w, hrun228, hw⟩ := e_store (P := P) hw hf (x := .tmp 41) (y := .tmp 40) rfl rfl ty_3 1 rfl (vs := [Value.int .i64 (bor .i64 (shl .i64 y212 8) y221)]) (oE rfl) rfl (oC rfl ones_nil) (by simp [arrC_len]) (cs' := [Value.int .i64 y10, Value.string (⟨#[]⟩ : ByteArray), Value.bool false, Value.string (⟨#[]⟩ : ByteArray), Value.int .i64 (bor .i64 (shl .i64 y212 8) y221), Value.slice none 0 0]) rfl
     replace hw : Ok E I (.blk b4 (.cells ⟨[.string y222]⟩ 135 (0, 0)) :: .blk b17 (.cells ⟨[.int .i64 y10, .string (⟨#[]⟩ : ByteArray), .bool false, .string (⟨#[]⟩ : ByteArray), .int .i64 (bor .i64 (shl .i64 y212 8) y221), .slice none 0 0]⟩ 32 (0, 0)) :: .blk b1 (.cells ⟨[.int .i64 0, .string (⟨#[]⟩ : ByteArray), .bool false, .string (⟨#[]⟩ : ByteArray), .int .i64 0, .slice none 0 0]⟩ 32 (0, 0)) :: F) w := hw
     refine t_effU (hrun228 ..) ⟨.inl rfl, ?_⟩
     refine t_done <| ct <| wq <| wr <| om hf rfl rfl fun a hf => ?_
     replace hw : Ok E I (.blk b4 (.cells ⟨[.string y222]⟩ 135 (0, 0)) :: .blk b17 (.cells ⟨[.int .i64 y10, .string (⟨#[]⟩ : ByteArray), .bool false, .string (⟨#[]⟩ : ByteArray), .int .i64 (bor .i64 (shl .i64 y212 8) y221), .slice none 0 0]⟩ 32 (0, 0)) :: .blk b1 (.cells ⟨[.int .i64 0, .string (⟨#[]⟩ : ByteArray), .bool false, .string (⟨#[]⟩ : ByteArray), .int .i64 0, .slice none 0 0]⟩ 32 (0, 0)) :: F) w := hw.front (i := 0) rfl
     obtain ⟨y232, hy231, hp⟩ := bS hp
     obtain ⟨y229, y230⟩ := y232
     have hc233 := node_reader_number_ok hw hG hy231
     refine o_call hf cb_81 rfl rfl hc233 (fun v235 w a hK234 hf => ?_)
     obtain ⟨rfl, hw⟩ := hK234
     refine oR hf (iC hf rfl rfl rfl) rfl fun a hf => oR hf (rF hf rfl fd_32_2) rfl fun a hf => ?_
     obtain ⟨w, hrun236, hw⟩ := e_store (P := P) hw hf (x := .tmp 45) (y := .tmp 44) rfl rfl ty_4 1 rfl (vs := [Value.bool (y229 == 1)]) (oE rfl) rfl (oC rfl ones_nil) (by simp [arrC_len]) (cs' := [Value.int .i64 y10, Value.string (⟨#[]⟩ : ByteArray), Value.bool (y229 == 1), Value.string (⟨#[]⟩ : ByteArray), Value.int .i64 (bor .i64 (shl .i64 y212 8) y221), Value.slice none 0 0]) rfl
     replace hw : Ok E I (.blk b4 (.cells ⟨[.string y230]⟩ 135 (0, 0)) :: .blk b17 (.cells ⟨[.int .i64 y10, .string (⟨#[]⟩ : ByteArray), .bool (y229 == 1), .string (⟨#[]⟩ : ByteArray), .int .i64 (bor .i64 (shl .i64 y212 8) y221), .slice none 0 0]⟩ 32 (0, 0)) :: .blk b1 (.cells ⟨[.int .i64 0, .string (⟨#[]⟩ : ByteArray), .bool false, .string (⟨#[]⟩ : ByteArray), .int .i64 0, .slice none 0 0]⟩ 32 (0, 0)) :: F) w := hw
     refine o_effU (hrun236 ..) <| oN <| ct <| wq <| wr <| oR hf (rF hf rfl fd_32_2) rfl fun a hf => oR hf (rL hw hf rfl ty_4 1 rfl rfl) rfl fun a hf => oN <| ct <| cC hf rfl (fun hb237 => ?_) (fun hb237 => ?_)
     ·replace hp := cond_t hb237 hp
      refine wr <| om hf rfl rfl fun a hf => om hf rfl rfl fun a hf => ?_
      replace hw : Ok E I (.blk b4 (.cells ⟨[.string y230]⟩ 135 (0, 0)) :: .blk b17 (.cells ⟨[.int .i64 y10, .string (⟨#[]⟩ : ByteArray), .bool (y229 == 1), .string (⟨#[]⟩ : ByteArray), .int .i64 (bor .i64 (shl .i64 y212 8) y221), .slice none 0 0]⟩ 32 (0, 0)) :: .blk b1 (.cells ⟨[.int .i64 0, .string (⟨#[]⟩ : ByteArray), .bool false, .string (⟨#[]⟩ : ByteArray), .int .i64 0, .slice none 0 0]⟩ 32 (0, 0)) :: F) w := hw.front (i := 0) rfl
      obtain ⟨y241, hy240, hp⟩ := bS hp
      obtain ⟨y238, y239⟩ := y241
      have hc242 := node_reader_number_ok hw hG hy240
      refine o_call hf cb_81 rfl rfl hc242 (fun v244 w a hK243 hf => ?_)
      obtain ⟨rfl, hw⟩ := hK243
      replace hw : Ok E I (.blk b4 (.cells ⟨[.string y239]⟩ 135 (0, 0)) :: .blk b17 (.cells ⟨[.int .i64 y10, .string (⟨#[]⟩ : ByteArray), .bool (y229 == 1), .string (⟨#[]⟩ : ByteArray), .int .i64 (bor .i64 (shl .i64 y212 8) y221), .slice none 0 0]⟩ 32 (0, 0)) :: .blk b1 (.cells ⟨[.int .i64 0, .string (⟨#[]⟩ : ByteArray), .bool false, .string (⟨#[]⟩ : ByteArray), .int .i64 0, .slice none 0 0]⟩ 32 (0, 0)) :: F) w := hw.front (i := 0) rfl
      obtain ⟨y248, hy247, hp⟩ := bS hp
      obtain ⟨y245, y246⟩ := y248
      have hc249 := node_reader_take_ok hw hG hy247
      refine o_call hf cb_83 rfl rfl hc249 (fun v251 w a hK250 hf => ?_)
      obtain ⟨rfl, hw⟩ := hK250
      refine oR hf (rF hf rfl fd_32_3) rfl fun a hf => ?_
      obtain ⟨w, hrun252, hw⟩ := e_store (P := P) hw hf (x := .tmp 52) (y := .tmp 51) rfl rfl ty_9 1 rfl (vs := [Value.string y245]) (oE rfl) rfl (oC rfl ones_nil) (by simp [arrC_len]) (cs' := [Value.int .i64 y10, Value.string (⟨#[]⟩ : ByteArray), Value.bool (y229 == 1), Value.string y245, Value.int .i64 (bor .i64 (shl .i64 y212 8) y221), Value.slice none 0 0]) rfl
      replace hw : Ok E I (.blk b4 (.cells ⟨[.string y246]⟩ 135 (0, 0)) :: .blk b17 (.cells ⟨[.int .i64 y10, .string (⟨#[]⟩ : ByteArray), .bool (y229 == 1), .string y245, .int .i64 (bor .i64 (shl .i64 y212 8) y221), .slice none 0 0]⟩ 32 (0, 0)) :: .blk b1 (.cells ⟨[.int .i64 0, .string (⟨#[]⟩ : ByteArray), .bool false, .string (⟨#[]⟩ : ByteArray), .int .i64 0, .slice none 0 0]⟩ 32 (0, 0)) :: F) w := hw
      refine o_effU (hrun252 ..) <| oN <| c_blockN <| ct ?_
      have ho := oI hp
      subst ho
      replace hw : Ok E I (.blk b1 (.cells ⟨[.int .i64 0, .string (⟨#[]⟩ : ByteArray), .bool false, .string (⟨#[]⟩ : ByteArray), .int .i64 0, .slice none 0 0]⟩ 32 (0, 0)) :: .blk b4 (.cells ⟨[.string y246]⟩ 135 (0, 0)) :: .blk b17 (.cells ⟨[.int .i64 y10, .string (⟨#[]⟩ : ByteArray), .bool (y229 == 1), .string y245, .int .i64 (bor .i64 (shl .i64 y212 8) y221), .slice none 0 0]⟩ 32 (0, 0)) :: F) w := hw.front (i := 2) rfl
      replace hw : Ok E I (.blk b4 (.cells ⟨[.string y246]⟩ 135 (0, 0)) :: .blk b1 (.cells ⟨[.int .i64 0, .string (⟨#[]⟩ : ByteArray), .bool false, .string (⟨#[]⟩ : ByteArray), .int .i64 0, .slice none 0 0]⟩ 32 (0, 0)) :: .blk b17 (.cells ⟨[.int .i64 y10, .string (⟨#[]⟩ : ByteArray), .bool (y229 == 1), .string y245, .int .i64 (bor .i64 (shl .i64 y212 8) y221), .slice none 0 0]⟩ 32 (0, 0)) :: F) w := hw.front (i := 1) rfl
      replace hw : Ok E I (.blk b17 (.cells ⟨[.int .i64 y10, .string (⟨#[]⟩ : ByteArray), .bool (y229 == 1), .string y245, .int .i64 (bor .i64 (shl .i64 y212 8) y221), .slice none 0 0]⟩ 32 (0, 0)) :: .blk b4 (.cells ⟨[.string y246]⟩ 135 (0, 0)) :: .blk b1 (.cells ⟨[.int .i64 0, .string (⟨#[]⟩ : ByteArray), .bool false, .string (⟨#[]⟩ : ByteArray), .int .i64 0, .slice none 0 0]⟩ 32 (0, 0)) :: F) w := hw.front (i := 2) rfl
      exact ⟨(⟨#[]⟩ : ByteArray), (y229 == 1), y245, (bor .i64 (shl .i64 y212 8) y221), y246, rfl, hw, hf.to ⟨rfl, rfl, rfl, trivial⟩⟩
     ·replace hp := cond_f hb237 hp
      refine wp_skip <| c_blockN <| ct ?_
      have ho := oI hp
      subst ho
      replace hw : Ok E I (.blk b1 (.cells ⟨[.int .i64 0, .string (⟨#[]⟩ : ByteArray), .bool false, .string (⟨#[]⟩ : ByteArray), .int .i64 0, .slice none 0 0]⟩ 32 (0, 0)) :: .blk b4 (.cells ⟨[.string y230]⟩ 135 (0, 0)) :: .blk b17 (.cells ⟨[.int .i64 y10, .string (⟨#[]⟩ : ByteArray), .bool (y229 == 1), .string (⟨#[]⟩ : ByteArray), .int .i64 (bor .i64 (shl .i64 y212 8) y221), .slice none 0 0]⟩ 32 (0, 0)) :: F) w := hw.front (i := 2) rfl
      replace hw : Ok E I (.blk b4 (.cells ⟨[.string y230]⟩ 135 (0, 0)) :: .blk b1 (.cells ⟨[.int .i64 0, .string (⟨#[]⟩ : ByteArray), .bool false, .string (⟨#[]⟩ : ByteArray), .int .i64 0, .slice none 0 0]⟩ 32 (0, 0)) :: .blk b17 (.cells ⟨[.int .i64 y10, .string (⟨#[]⟩ : ByteArray), .bool (y229 == 1), .string (⟨#[]⟩ : ByteArray), .int .i64 (bor .i64 (shl .i64 y212 8) y221), .slice none 0 0]⟩ 32 (0, 0)) :: F) w := hw.front (i := 1) rfl
      replace hw : Ok E I (.blk b17 (.cells ⟨[.int .i64 y10, .string (⟨#[]⟩ : ByteArray), .bool (y229 == 1), .string (⟨#[]⟩ : ByteArray), .int .i64 (bor .i64 (shl .i64 y212 8) y221), .slice none 0 0]⟩ 32 (0, 0)) :: .blk b4 (.cells ⟨[.string y230]⟩ 135 (0, 0)) :: .blk b1 (.cells ⟨[.int .i64 0, .string (⟨#[]⟩ : ByteArray), .bool false, .string (⟨#[]⟩ : ByteArray), .int .i64 0, .slice none 0 0]⟩ 32 (0, 0)) :: F) w := hw.front (i := 2) rfl
      exact ⟨(⟨#[]⟩ : ByteArray), (y229 == 1), (⟨#[]⟩ : ByteArray), (bor .i64 (shl .i64 y212 8) y221), y230, rfl, hw, hf.to ⟨rfl, rfl, rfl, trivial⟩⟩
    ·replace hp := cond_f hb211 hp
     refine wp_skip <| c_blockN <| ct ?_
     have ho := oI hp
     subst ho
     exact ⟨(⟨#[]⟩ : ByteArray), false, (⟨#[]⟩ : ByteArray), 0, y11, rfl, hw, hf.to ⟨rfl, rfl, rfl, trivial⟩⟩
 ·intro a w hM
  obtain ⟨y169, y170, y171, y172, y173, rfl, hw, hf⟩ := hM
  replace hp := hq175
  refine wq <| wr <| om hf rfl rfl fun a hf => ?_
  replace hw : Ok E I (.blk b4 (.cells ⟨[.string y173]⟩ 135 (0, 0)) :: .blk b17 (.cells ⟨[.int .i64 y10, .string y169, .bool y170, .string y171, .int .i64 y172, .slice none 0 0]⟩ 32 (0, 0)) :: .blk b1 (.cells ⟨[.int .i64 0, .string (⟨#[]⟩ : ByteArray), .bool false, .string (⟨#[]⟩ : ByteArray), .int .i64 0, .slice none 0 0]⟩ 32 (0, 0)) :: F) w := hw.front (i := 1) rfl
  obtain ⟨y128, hy127, hp⟩ := bS hp
  obtain ⟨y125, y126⟩ := y128
  have hc129 := node_reader_rest_ok hw hG hy127
  refine o_call hf cb_84 rfl rfl hc129 (fun v133 w a hK130 hf => ?_)
  obtain ⟨I2_130, rvv131, hv0, hle134, hw, hR132⟩ := hK130
  subst v133
  replace hG := hG.mono hle134
  refine oR hf (rF hf rfl fd_32_5) rfl fun a hf => ?_
  obtain ⟨w, hrun135, hw⟩ := e_store (P := P) hw hf (x := .tmp 55) (y := .tmp 54) rfl rfl ty_28 1 rfl (vs := [rvv131]) (oE hR132.one) rfl (oC hR132.one ones_nil) (by simp [arrC_len]) (cs' := [Value.int .i64 y10, Value.string y169, Value.bool y170, Value.string y171, Value.int .i64 y172, rvv131]) rfl
  replace hw : Ok E I2_130 (.blk b4 (.cells ⟨[.string y126]⟩ 135 (0, 0)) :: .blk b17 (.cells ⟨[.int .i64 y10, .string y169, .bool y170, .string y171, .int .i64 y172, rvv131]⟩ 32 (0, 0)) :: .blk b1 (.cells ⟨[.int .i64 0, .string (⟨#[]⟩ : ByteArray), .bool false, .string (⟨#[]⟩ : ByteArray), .int .i64 0, .slice none 0 0]⟩ 32 (0, 0)) :: F) w := hw
  refine o_effU (hrun135 ..) <| oN <| ct <| wq <| wr <| oR hf (r_loadA hw hf rfl ty_32 1 rfl (vs := [Value.int .i64 y10, Value.string y169, Value.bool y170, Value.string y171, Value.int .i64 y172, rvv131]) rfl rfl) rfl fun a hf => ?_
  obtain ⟨w, hrun136, hw⟩ := e_store (P := P) hw hf (x := .tmp 2) (y := .tmp 56) rfl rfl ty_32 2 rfl (vs := [Value.int .i64 y10, Value.string y169, Value.bool y170, Value.string y171, Value.int .i64 y172, rvv131]) rfl rfl (oC rfl (oC rfl (oC rfl (oC rfl (oC rfl (oC hR132.one ones_nil)))))) (by simp [arrC_len]) (cs' := [Value.int .i64 y10, Value.string y169, Value.bool y170, Value.string y171, Value.int .i64 y172, rvv131]) rfl
  replace hw : Ok E I2_130 (.blk b4 (.cells ⟨[.string y126]⟩ 135 (0, 0)) :: .blk b17 (.cells ⟨[.int .i64 y10, .string y169, .bool y170, .string y171, .int .i64 y172, rvv131]⟩ 32 (0, 0)) :: .blk b1 (.cells ⟨[.int .i64 y10, .string y169, .bool y170, .string y171, .int .i64 y172, rvv131]⟩ 32 (0, 0)) :: F) w := hw
  refine o_effU (hrun136 ..) <| oN <| ct <| wp_ret ?_
  replace hw : Ok E I2_130 (.blk b1 (.cells ⟨[.int .i64 y10, .string y169, .bool y170, .string y171, .int .i64 y172, rvv131]⟩ 32 (0, 0)) :: F) w := hw.sub (sc (sc (scc sr)))
  have ho := oI hp
  subst ho
  exact b_retC hw hf Go.Proofs.Tryd.results60 ty_32 rfl 0 rfl (vs := [Value.int .i64 y10, Value.string y169, Value.bool y170, Value.string y171, Value.int .i64 y172, rvv131]) rfl rfl ⟨_, rfl, ⟨I2_130, rvv131, rfl, hle134, hw.tail, hR132⟩⟩

theorem node_Decode_ok {E : World} {I : IH} {F : List Atom} {w : World} {a0 : ByteArray} {res0 : Item} {res1 : Bool} (hw : Ok E I (F) w) (hG : Gl I) (hp : node_Decode.f a0 = some (res0, res1)) :
  Calls P 38 ⟨[Value.string a0]⟩ w fun e w' => ∃ v, e = .returned v ∧ ∃ I2 : IH, ∃ rvv7815 : Value, v = Value.tuple ⟨[Value.agg ⟨[Value.int .i64 res0.kind_, Value.string res0.path_, Value.bool res0.has_, Value.string res0.value_, Value.int .i64 res0.mask_, rvv7815]⟩, Value.bool res1]⟩ ∧ IH.le I I2 ∧ Ok E I2 (F) w' ∧ RS ekS I2 rvv7815 res0.hashes_ := by
 refine c_enter Go.Proofs.Tryd.func38 rfl Go.Proofs.Tryd.ntmps38 rfl fun a hf => ?_
 replace hf : Fr 23 [(0, .string a0)] a := hf
 unfold node_Decode.f at hp
 refine wq <| wr ?_
 obtain ⟨b1, w, hrun2, hw⟩ := e_alloc (P := P) (a := a) hw ty_32
 replace hw : Ok E I (.blk b1 (.cells ⟨[.int .i64 0, .string (⟨#[]⟩ : ByteArray), .bool false, .string (⟨#[]⟩ : ByteArray), .int .i64 0, .slice none 0 0]⟩ 32 (0, 0)) :: F) w := hw
 refine o_eff hf (hrun2 ..) rfl fun a hf => oa hf rfl rfl fun a hf => oN <| ct <| wq <| wr <| om hf rfl rfl fun a hf => ?_
 obtain ⟨y137, hy138, hp⟩ := bS hp
 have hc140 := node_read_ok hw hG hy138
 refine o_call hf cb_60 rfl rfl hc140 (fun v144 w a hK141 hf => ?_)
 obtain ⟨I2_141, rvv142, rfl, hle145, hw, hR143⟩ := hK141
 replace hG := hG.mono hle145
 obtain ⟨b146, w, hrun147, hw⟩ := e_alloc (P := P) (a := a) hw ty_32
 replace hw : Ok E I2_141 (.blk b146 (.cells ⟨[.int .i64 0, .string (⟨#[]⟩ : ByteArray), .bool false, .string (⟨#[]⟩ : ByteArray), .int .i64 0, .slice none 0 0]⟩ 32 (0, 0)) :: .blk b1 (.cells ⟨[.int .i64 0, .string (⟨#[]⟩ : ByteArray), .bool false, .string (⟨#[]⟩ : ByteArray), .int .i64 0, .slice none 0 0]⟩ 32 (0, 0)) :: F) w := hw
 refine o_eff hf (hrun147 ..) rfl fun a hf => ?_
 obtain ⟨w, hrun149, hw⟩ := e_store (P := P) hw hf (x := .tmp 4) (y := .tmp 8) rfl rfl ty_32 0 rfl (vs := [Value.int .i64 y137.kind_, Value.string y137.path_, Value.bool y137.has_, Value.string y137.value_, Value.int .i64 y137.mask_, rvv142]) rfl rfl (oC rfl (oC rfl (oC rfl (oC rfl (oC rfl (oC hR143.one ones_nil)))))) (by simp [arrC_len]) (cs' := [Value.int .i64 y137.kind_, Value.string y137.path_, Value.bool y137.has_, Value.string y137.value_, Value.int .i64 y137.mask_, rvv142]) rfl
 replace hw : Ok E I2_141 (.blk b146 (.cells ⟨[.int .i64 y137.kind_, .string y137.path_, .bool y137.has_, .string y137.value_, .int .i64 y137.mask_, rvv142]⟩ 32 (0, 0)) :: .blk b1 (.cells ⟨[.int .i64 0, .string (⟨#[]⟩ : ByteArray), .bool false, .string (⟨#[]⟩ : ByteArray), .int .i64 0, .slice none 0 0]⟩ 32 (0, 0)) :: F) w := hw
 refine o_effU (hrun149 ..) <| oN <| ct <| wq <| wq <| wr <| oR hf (r_loadA hw hf rfl ty_32 0 rfl (vs := [Value.int .i64 y137.kind_, Value.string y137.path_, Value.bool y137.has_, Value.string y137.value_, Value.int .i64 y137.mask_, rvv142]) rfl rfl) rfl fun a hf => ?_
 obtain ⟨y168, hy167, hp⟩ := bS hp
 obtain ⟨y165, y166⟩ := y168
 have hc169 := node_Encode_ok hw hG hR143 hy167
 refine o_call hf cb_28 rfl rfl hc169 (fun v171 w a hK170 hf => ?_)
 obtain ⟨rfl, hw⟩ := hK170
 refine om hf rfl rfl fun a hf => oR hf (rE hf rfl rfl) rfl fun a hf => oR hf (rE hf rfl rfl) rfl fun a hf => oa hf rfl rfl fun a hf => oa hf rfl rfl fun a hf => oN <| ct ?_
 obtain ⟨out175, hp, hq176⟩ := bS hp
 refine c_cut (fun a w => ∃ y174 : Bool, y174 = out175 ∧ Ok E I2_141 (.blk b146 (.cells ⟨[.int .i64 y137.kind_, .string y137.path_, .bool y137.has_, .string y137.value_, .int .i64 y137.mask_, rvv142]⟩ 32 (0, 0)) :: .blk b1 (.cells ⟨[.int .i64 0, .string (⟨#[]⟩ : ByteArray), .bool false, .string (⟨#[]⟩ : ByteArray), .int .i64 0, .slice none 0 0]⟩ 32 (0, 0)) :: F) w ∧ Fr 23 ([(2, .pointer (some ⟨b1, 0, none⟩)), (4, .pointer (some ⟨b146, 0, none⟩)), (20, .bool y174)]) a) ?_ ?_
 ·refine wr <| om hf rfl rfl fun a hf => oR hf (r_not hf rfl) rfl fun a hf => om hf rfl rfl fun a hf => g_split hf (g := 16) rfl (fun hb177 hf => ?_) (fun hb177 hf => ?_)
  ·replace hp := cond_t hb177 hp
   refine oS hf (g := 16) rfl rfl rfl rfl rfl rfl fun a hf => oS hf (g := 16) rfl rfl rfl rfl rfl rfl fun a hf => oS hf (g := 16) rfl rfl rfl rfl rfl rfl fun a hf => oR hf (pT hf rfl rfl) rfl fun a hf => oN <| ct ?_
   have ho := oI hp
   subst ho
   exact ⟨true, rfl, hw, hf.to ⟨rfl, rfl, rfl, trivial⟩⟩
  ·replace hp := cond_f hb177 hp
   refine oW hf (g := 16) rfl rfl <| om hf rfl rfl fun a hf => oW hf (g := 16) rfl rfl <| om hf rfl rfl fun a hf => oW hf (g := 16) rfl rfl <| oR hf (r_scmp hf rfl rfl rfl) rfl fun a hf => oR hf (pF hf rfl rfl) rfl fun a hf => oN <| ct ?_
   have ho := oI hp
   subst ho
   exact ⟨(!(seq_ y165 a0)), rfl, hw, hf.to ⟨rfl, rfl, rfl, trivial⟩⟩
 ·intro a w hM
  obtain ⟨y174, rfl, hw, hf⟩ := hM
  replace hp := hq176
  refine cC hf rfl (fun hb178 => ?_) (fun hb178 => ?_)
  ·replace hp := cond_t hb178 hp
   refine wq <| wr <| oR hf (r_build hf bd_32 (vs := []) rfl trivial (by decide) (out := [Value.int .i64 0, Value.string (⟨#[]⟩ : ByteArray), Value.bool false, Value.string (⟨#[]⟩ : ByteArray), Value.int .i64 0, Value.slice none 0 0]) rfl) rfl fun a hf => ?_
   obtain ⟨w, hrun179, hw⟩ := e_store (P := P) hw hf (x := .tmp 2) (y := .tmp 21) rfl rfl ty_32 1 rfl (vs := [Value.int .i64 0, Value.string (⟨#[]⟩ : ByteArray), Value.bool false, Value.string (⟨#[]⟩ : ByteArray), Value.int .i64 0, Value.slice none 0 0]) rfl rfl (oC rfl (oC rfl (oC rfl (oC rfl (oC rfl (oC rfl ones_nil)))))) (by simp [arrC_len]) (cs' := [Value.int .i64 0, Value.string (⟨#[]⟩ : ByteArray), Value.bool false, Value.string (⟨#[]⟩ : ByteArray), Value.int .i64 0, Value.slice none 0 0]) rfl
   replace hw : Ok E I2_141 (.blk b146 (.cells ⟨[.int .i64 y137.kind_, .string y137.path_, .bool y137.has_, .string y137.value_, .int .i64 y137.mask_, rvv142]⟩ 32 (0, 0)) :: .blk b1 (.cells ⟨[.int .i64 0, .string (⟨#[]⟩ : ByteArray), .bool false, .string (⟨#[]⟩ : ByteArray), .int .i64 0, .slice none 0 0]⟩ 32 (0, 0)) :: F) w := hw
   refine o_effU (hrun179 ..) <| oa hf rfl rfl fun a hf => oN <| ct <| wp_ret <| c_thenR ?_
   replace hw : Ok E I2_141 (.blk b1 (.cells ⟨[.int .i64 0, .string (⟨#[]⟩ : ByteArray), .bool false, .string (⟨#[]⟩ : ByteArray), .int .i64 0, .slice none 0 0]⟩ 32 (0, 0)) :: F) w := hw.sub (sc (scc sr))
   have ho := oI hp
   simp only [Prod.mk.injEq] at ho
   obtain ⟨rfl, rfl⟩ := ho
   exact b_retC2 hw hf Go.Proofs.Tryd.results38 ty_32 rfl 0 rfl (vs := [Value.int .i64 0, Value.string (⟨#[]⟩ : ByteArray), Value.bool false, Value.string (⟨#[]⟩ : ByteArray), Value.int .i64 0, Value.slice none 0 0]) rfl rfl rfl ⟨_, rfl, ⟨I2_141, (Value.slice none 0 0), rfl, hle145, hw.tail, RS.nil⟩⟩
  ·replace hp := cond_f hb178 hp
   refine wp_skip <| ct <| wq <| wr <| oR hf (r_loadA hw hf rfl ty_32 0 rfl (vs := [Value.int .i64 y137.kind_, Value.string y137.path_, Value.bool y137.has_, Value.string y137.value_, Value.int .i64 y137.mask_, rvv142]) rfl rfl) rfl fun a hf => ?_
   obtain ⟨w, hrun180, hw⟩ := e_store (P := P) hw hf (x := .tmp 2) (y := .tmp 22) rfl rfl ty_32 1 rfl (vs := [Value.int .i64 y137.kind_, Value.string y137.path_, Value.bool y137.has_, Value.string y137.value_, Value.int .i64 y137.mask_, rvv142]) rfl rfl (oC rfl (oC rfl (oC rfl (oC rfl (oC rfl (oC hR143.one ones_nil)))))) (by simp [arrC_len]) (cs' := [Value.int .i64 y137.kind_, Value.string y137.path_, Value.bool y137.has_, Value.string y137.value_, Value.int .i64 y137.mask_, rvv142]) rfl
   replace hw : Ok E I2_141 (.blk b146 (.cells ⟨[.int .i64 y137.kind_, .string y137.path_, .bool y137.has_, .string y137.value_, .int .i64 y137.mask_, rvv142]⟩ 32 (0, 0)) :: .blk b1 (.cells ⟨[.int .i64 y137.kind_, .string y137.path_, .bool y137.has_, .string y137.value_, .int .i64 y137.mask_, rvv142]⟩ 32 (0, 0)) :: F) w := hw
   refine o_effU (hrun180 ..) <| oa hf rfl rfl fun a hf => oN <| ct <| wp_ret ?_
   replace hw : Ok E I2_141 (.blk b1 (.cells ⟨[.int .i64 y137.kind_, .string y137.path_, .bool y137.has_, .string y137.value_, .int .i64 y137.mask_, rvv142]⟩ 32 (0, 0)) :: F) w := hw.sub (sc (scc sr))
   have ho := oI hp
   simp only [Prod.mk.injEq] at ho
   obtain ⟨rfl, rfl⟩ := ho
   exact b_retC2 hw hf Go.Proofs.Tryd.results38 ty_32 rfl 0 rfl (vs := [Value.int .i64 y137.kind_, Value.string y137.path_, Value.bool y137.has_, Value.string y137.value_, Value.int .i64 y137.mask_, rvv142]) rfl rfl rfl ⟨_, rfl, ⟨I2_141, rvv142, rfl, hle145, hw.tail, hR143⟩⟩

theorem keep_Texts_ok {E : World} {I : IH} {F : List Atom} {w : World} {a0 : List ByteArray} {a0v12 : Value} {a1 : List ByteArray} {a1v14 : Value} {res0 : Bool} (hw : Ok E I (F) w) (hG : Gl I) (hR13 : RS ekS I a0v12 a0) (hR15 : RS ekS I a1v14 a1) (hp : keep_Texts.f a0 a1 = some res0) :
  Calls P 19 ⟨[a0v12, a1v14]⟩ w fun e w' => ∃ v, e = .returned v ∧ v = Value.bool res0 ∧ Ok E I (F) w' := by
 refine c_enter Go.Proofs.Tryd.func19 rfl Go.Proofs.Tryd.ntmps19 rfl fun a hf => ?_
 replace hf : Fr 26 [(0, a0v12), (1, a1v14)] a := hf
 unfold keep_Texts.f at hp
 refine wq <| wr <| oa hf rfl rfl fun a hf => oN <| ct <| wq <| wq <| wr <| om hf rfl rfl fun a hf => oR hf (r_lenL (K := ekS) hf el_28 rfl (hR13.rd hw)) rfl fun a hf => om hf rfl rfl fun a hf => oR hf (r_lenL (K := ekS) hf el_28 rfl (hR15.rd hw)) rfl fun a hf => oR hf (iC hf rfl rfl rfl) rfl fun a hf => oN <| ct <| cC hf rfl (fun hb1 => ?_) (fun hb1 => ?_)
 ·replace hp := cond_t hb1 hp
  refine wq <| wr <| oa hf rfl rfl fun a hf => oN <| ct <| wp_ret <| c_thenR ?_
  have ho := oI hp
  subst ho
  exact b_ret1 hf Go.Proofs.Tryd.results19 rfl ⟨_, rfl, ⟨rfl, hw⟩⟩
 ·replace hp := cond_f hb1 hp
  refine wp_skip <| ct <| wq <| wq <| wr <| oa hf rfl rfl fun a hf => oN <| ct ?_
  obtain ⟨out19, hp, hq20⟩ := bS hp
  refine c_cutX (fun a w => (.inl ()) = out19 ∧ Ok E I (F) w ∧ Fr 26 ([]) a) ?_ ?_
  ·refine wp_block <| c_loop <| c_fuel (keep_Texts.l0 a0 a1) out19 (fun (y13 : Int) a w => Ok E I (F) w ∧ Fr 26 ([(0, a0v12), (1, a1v14), (5, .int .i64 y13)]) a) (fun _ => rfl) ?_ BIG 0 _ _ ⟨hw, hf.to ⟨rfl, rfl, rfl, trivial⟩⟩ hp
   intro k y13 a w hI hp ih
   obtain ⟨hw, hf⟩ := hI
   rw [keep_Texts.l0] at hp
   refine wq <| wq <| wr <| om hf rfl rfl fun a hf => om hf rfl rfl fun a hf => oR hf (r_lenL (K := ekS) hf el_28 rfl (hR13.rd hw)) rfl fun a hf => oR hf (iC hf rfl rfl rfl) rfl fun a hf => oN <| ct <| cC hf rfl (fun hb22 => ?_) (fun hb22 => ?_)
   ·replace hp := cond_t hb22 hp
    refine wp_skip <| ct <| wq <| wp_block <| wq <| c_drawn mix [] (.rd 0 (.rd 1 (.rd 2 (.rd 3 (.rd 4 (.rd 5 (.rd 6 (.rd 7 (.rd 8 .done))))))))) (by kernel_rfl) hw (fun w => Ok E I (F) w) (fun w hw => ⟨hw.sub sr, ?_⟩)
    refine tm rfl hf rfl rfl fun a hf => tm rfl hf rfl rfl fun a hf => ?_
    obtain ⟨hg24, hp⟩ := gS hp
    refine tR rfl hf (fun w hw => rI (K := ekS) hf el_28 rfl rfl (hR13.rd hw) hg24) rfl fun a hf => tR rfl hf (fun w hw => r_loadH (K := ekS) hf rfl ty_9 (hR13.rd hw) hg24 rfl (fun cs h => ekS_f0 h)) rfl fun a hf => tm rfl hf rfl rfl fun a hf => tm rfl hf rfl rfl fun a hf => ?_
    obtain ⟨hg25, hp⟩ := gS hp
    refine tR rfl hf (fun w hw => rI (K := ekS) hf el_28 rfl rfl (hR15.rd hw) hg25) rfl fun a hf => tR rfl hf (fun w hw => r_loadH (K := ekS) hf rfl ty_9 (hR15.rd hw) hg25 rfl (fun cs h => ekS_f0 h)) rfl fun a hf => tR rfl hf (fun w hw => r_scmp hf rfl rfl rfl) rfl fun a hf => t_done <| ct <| cC hf rfl (fun hb26 => ?_) (fun hb26 => ?_)
    ·replace hp := cond_t hb26 hp
     refine wq <| wr <| oa hf rfl rfl fun a hf => oN <| ct <| wp_ret <| c_blockR <| c_thenR <| c_thenR <| c_blockR <| c_thenR ?_
     have ho := oI hp
     subst ho
     replace hp := hq20
     refine c_thenR ?_
     have ho := oI hp
     subst ho
     exact b_ret1 hf Go.Proofs.Tryd.results19 rfl ⟨_, rfl, ⟨rfl, hw⟩⟩
    ·replace hp := cond_f hb26 hp
     refine wp_skip <| c_blockN <| ct <| wr <| om hf rfl rfl fun a hf => oR hf (r_add hf rfl rfl) rfl fun a hf => oa hf rfl rfl fun a hf => oN <| ct ?_
     exact ih (w64 (y13 + 1)) _ _ ⟨hw, hf.to ⟨rfl, rfl, rfl, trivial⟩⟩ hp
   ·replace hp := cond_f hb22 hp
    refine wp_exit <| c_thenE <| c_thenE <| c_exit <| ct ?_
    have ho := oI hp
    subst ho
    exact ⟨rfl, hw, hf.to trivial⟩
  ·intro a w hM
   obtain ⟨rfl, hw, hf⟩ := hM
   replace hp := hq20
   refine ct <| wq <| wr <| oa hf rfl rfl fun a hf => oN <| ct <| wp_ret ?_
   have ho := oI hp
   subst ho
   exact b_ret1 hf Go.Proofs.Tryd.results19 rfl ⟨_, rfl, ⟨rfl, hw⟩⟩

theorem keep_Item_ok {E : World} {I : IH} {F : List Atom} {w : World} {a0 : Item} {a0v203 : Value} {a1 : Item} {a1v205 : Value} {res0 : Bool} (hw : Ok E I (F) w) (hG : Gl I) (hR204 : RS ekS I a0v203 a0.hashes_) (hR206 : RS ekS I a1v205 a1.hashes_) (hp : keep_Item.f a0 a1 = some res0) :
  Calls P 20 ⟨[Value.agg ⟨[Value.int .i64 a0.kind_, Value.string a0.path_, Value.bool a0.has_, Value.string a0.value_, Value.int .i64 a0.mask_, a0v203]⟩, Value.agg ⟨[Value.int .i64 a1.kind_, Value.string a1.path_, Value.bool a1.has_, Value.string a1.value_, Value.int .i64 a1.mask_, a1v205]⟩]⟩ w fun e w' => ∃ v, e = .returned v ∧ v = Value.bool res0 ∧ Ok E I (F) w' := by
 refine c_enter Go.Proofs.Tryd.func20 rfl Go.Proofs.Tryd.ntmps20 rfl fun a hf => ?_
 replace hf : Fr 45 [(0, Value.agg ⟨[.int .i64 a0.kind_, .string a0.path_, .bool a0.has_, .string a0.value_, .int .i64 a0.mask_, a0v203]⟩), (1, Value.agg ⟨[.int .i64 a1.kind_, .string a1.path_, .bool a1.has_, .string a1.value_, .int .i64 a1.mask_, a1v205]⟩)] a := hf
 unfold keep_Item.f at hp
 refine wq <| wr ?_
 obtain ⟨b1, w, hrun2, hw⟩ := e_box (P := P) hw hf (e := 32) (x := .tmp 0) rfl (cs := [Value.int .i64 a0.kind_, Value.string a0.path_, Value.bool a0.has_, Value.string a0.value_, Value.int .i64 a0.mask_, a0v203]) rfl
 refine o_eff hf (hrun2 ..) rfl fun a hf => ?_
 obtain ⟨b4, w, hrun5, hw⟩ := e_box (P := P) hw hf (e := 32) (x := .tmp 1) rfl (cs := [Value.int .i64 a1.kind_, Value.string a1.path_, Value.bool a1.has_, Value.string a1.value_, Value.int .i64 a1.mask_, a1v205]) rfl
 refine o_eff hf (hrun5 ..) rfl fun a hf => oa hf rfl rfl fun a hf => oN <| ct ?_
 obtain ⟨out47, hp, hq48⟩ := bS hp
 refine c_cut (fun a w => ∃ y46 : Bool, y46 = out47 ∧ Ok E I (.blk b4 (.cells ⟨[.int .i64 a1.kind_, .string a1.path_, .bool a1.has_, .string a1.value_, .int .i64 a1.mask_, a1v205]⟩ 32 (0, 0)) :: .blk b1 (.cells ⟨[.int .i64 a0.kind_, .string a0.path_, .bool a0.has_, .string a0.value_, .int .i64 a0.mask_, a0v203]⟩ 32 (0, 0)) :: F) w ∧ Fr 45 ([(4, .bool y46)]) a) ?_ ?_
 ·refine wr <| oR hf (rF hf rfl fd_32_0) rfl fun a hf => oR hf (rL hw hf rfl ty_3 1 rfl rfl) rfl fun a hf => oR hf (rF hf rfl fd_32_0) rfl fun a hf => oR hf (rL hw hf rfl ty_3 0 rfl rfl) rfl fun a hf => oR hf (iC hf rfl rfl rfl) rfl fun a hf => om hf rfl rfl fun a hf => g_split hf (g := 10) rfl (fun hb49 hf => ?_) (fun hb49 hf => ?_)
  ·replace hp := cond_t hb49 hp
   refine oW hf (g := 10) rfl rfl <| oR hf (rF hf rfl fd_32_1) rfl fun a hf => oW hf (g := 10) rfl rfl <| oR hf (rL hw hf rfl ty_9 1 rfl rfl) rfl fun a hf => oW hf (g := 10) rfl rfl <| oR hf (rF hf rfl fd_32_1) rfl fun a hf => oW hf (g := 10) rfl rfl <| oR hf (rL hw hf rfl ty_9 0 rfl rfl) rfl fun a hf => oW hf (g := 10) rfl rfl <| oR hf (r_scmp hf rfl rfl rfl) rfl fun a hf => oR hf (pT hf rfl rfl) rfl fun a hf => om hf rfl rfl fun a hf => g_split hf (g := 17) rfl (fun hb50 hf => ?_) (fun hb50 hf => ?_)
   ·replace hp := cond_t hb50 hp
    refine oW hf (g := 17) rfl rfl <| oR hf (rF hf rfl fd_32_2) rfl fun a hf => oW hf (g := 17) rfl rfl <| oR hf (rL hw hf rfl ty_4 1 rfl rfl) rfl fun a hf => oW hf (g := 17) rfl rfl <| oR hf (rF hf rfl fd_32_2) rfl fun a hf => oW hf (g := 17) rfl rfl <| oR hf (rL hw hf rfl ty_4 0 rfl rfl) rfl fun a hf => oW hf (g := 17) rfl rfl <| oR hf (r_beq hf und_4 rfl rfl) rfl fun a hf => oR hf (pT hf rfl rfl) rfl fun a hf => om hf rfl rfl fun a hf => g_split hf (g := 24) rfl (fun hb51 hf => ?_) (fun hb51 hf => ?_)
    ·replace hp := cond_t hb51 hp
     refine oW hf (g := 24) rfl rfl <| oR hf (rF hf rfl fd_32_3) rfl fun a hf => oW hf (g := 24) rfl rfl <| oR hf (rL hw hf rfl ty_9 1 rfl rfl) rfl fun a hf => oW hf (g := 24) rfl rfl <| oR hf (rF hf rfl fd_32_3) rfl fun a hf => oW hf (g := 24) rfl rfl <| oR hf (rL hw hf rfl ty_9 0 rfl rfl) rfl fun a hf => oW hf (g := 24) rfl rfl <| oR hf (r_scmp hf rfl rfl rfl) rfl fun a hf => oR hf (pT hf rfl rfl) rfl fun a hf => om hf rfl rfl fun a hf => g_split hf (g := 31) rfl (fun hb52 hf => ?_) (fun hb52 hf => ?_)
     ·replace hp := cond_t hb52 hp
      refine oW hf (g := 31) rfl rfl <| oR hf (rF hf rfl fd_32_4) rfl fun a hf => oW hf (g := 31) rfl rfl <| oR hf (rL hw hf rfl ty_3 1 rfl rfl) rfl fun a hf => oW hf (g := 31) rfl rfl <| oR hf (rF hf rfl fd_32_4) rfl fun a hf => oW hf (g := 31) rfl rfl <| oR hf (rL hw hf rfl ty_3 0 rfl rfl) rfl fun a hf => oW hf (g := 31) rfl rfl <| oR hf (iC hf rfl rfl rfl) rfl fun a hf => oR hf (pT hf rfl rfl) rfl fun a hf => om hf rfl rfl fun a hf => g_split hf (g := 38) rfl (fun hb53 hf => ?_) (fun hb53 hf => ?_)
      ·replace hp := cond_t hb53 hp
       refine oW hf (g := 38) rfl rfl <| oR hf (rF hf rfl fd_32_5) rfl fun a hf => oW hf (g := 38) rfl rfl <| oR hf (rL hw hf rfl ty_28 1 rfl rfl) rfl fun a hf => oW hf (g := 38) rfl rfl <| oR hf (rF hf rfl fd_32_5) rfl fun a hf => oW hf (g := 38) rfl rfl <| oR hf (rL hw hf rfl ty_28 0 rfl rfl) rfl fun a hf => oW hf (g := 38) rfl rfl ?_
       obtain ⟨y54, hy55, hp⟩ := bS hp
       have hc57 := keep_Texts_ok hw hG hR204 hR206 hy55
       refine o_call hf cb_19 rfl rfl hc57 (fun v59 w a hK58 hf => ?_)
       obtain ⟨rfl, hw⟩ := hK58
       refine oR hf (pT hf rfl rfl) rfl fun a hf => oa hf rfl rfl fun a hf => oN <| ct ?_
       have ho := oI hp
       subst ho
       exact ⟨y54, rfl, hw, hf.to ⟨rfl, trivial⟩⟩
      ·replace hp := cond_f hb53 hp
       refine oS hf (g := 38) rfl rfl rfl rfl rfl rfl fun a hf => oS hf (g := 38) rfl rfl rfl rfl rfl rfl fun a hf => oS hf (g := 38) rfl rfl rfl rfl rfl rfl fun a hf => oS hf (g := 38) rfl rfl rfl rfl rfl rfl fun a hf => oS hf (g := 38) rfl rfl rfl rfl rfl rfl fun a hf => oR hf (pF hf rfl rfl) rfl fun a hf => oa hf rfl rfl fun a hf => oN <| ct ?_
       have ho := oI hp
       subst ho
       exact ⟨false, rfl, hw, hf.to ⟨rfl, trivial⟩⟩
     ·replace hp := cond_f hb52 hp
      refine oS hf (g := 31) rfl rfl rfl rfl rfl rfl fun a hf => oS hf (g := 31) rfl rfl rfl rfl rfl rfl fun a hf => oS hf (g := 31) rfl rfl rfl rfl rfl rfl fun a hf => oS hf (g := 31) rfl rfl rfl rfl rfl rfl fun a hf => oS hf (g := 31) rfl rfl rfl rfl rfl rfl fun a hf => oR hf (pF hf rfl rfl) rfl fun a hf => om hf rfl rfl fun a hf => oS hf (g := 38) rfl rfl rfl rfl rfl rfl fun a hf => oS hf (g := 38) rfl rfl rfl rfl rfl rfl fun a hf => oS hf (g := 38) rfl rfl rfl rfl rfl rfl fun a hf => oS hf (g := 38) rfl rfl rfl rfl rfl rfl fun a hf => oS hf (g := 38) rfl rfl rfl rfl rfl rfl fun a hf => oR hf (pF hf rfl rfl) rfl fun a hf => oa hf rfl rfl fun a hf => oN <| ct ?_
      have ho := oI hp
      subst ho
      exact ⟨false, rfl, hw, hf.to ⟨rfl, trivial⟩⟩
    ·replace hp := cond_f hb51 hp
     refine oS hf (g := 24) rfl rfl rfl rfl rfl rfl fun a hf => oS hf (g := 24) rfl rfl rfl rfl rfl rfl fun a hf => oS hf (g := 24) rfl rfl rfl rfl rfl rfl fun a hf => oS hf (g := 24) rfl rfl rfl rfl rfl rfl fun a hf => oS hf (g := 24) rfl rfl rfl rfl rfl rfl fun a hf => oR hf (pF hf rfl rfl) rfl fun a hf => om hf rfl rfl fun a hf => oS hf (g := 31) rfl rfl rfl rfl rfl rfl fun a hf => oS hf (g := 31) rfl rfl rfl rfl rfl rfl fun a hf => oS hf (g := 31) rfl rfl rfl rfl rfl rfl fun a hf => oS hf (g := 31) rfl rfl rfl rfl rfl rfl fun a hf => oS hf (g := 31) rfl rfl rfl rfl rfl rfl fun a hf => oR hf (pF hf rfl rfl) rfl fun a hf => om hf rfl rfl fun a hf => oS hf (g := 38) rfl rfl rfl rfl rfl rfl fun a hf => oS hf (g := 38) rfl rfl rfl rfl rfl rfl fun a hf => ?_
     refine oS hf (g := 38) rfl rfl rfl rfl rfl rfl fun a hf => oS hf (g := 38) rfl rfl rfl rfl rfl rfl fun a hf => oS hf (g := 38) rfl rfl rfl rfl rfl rfl fun a hf => oR hf (pF hf rfl rfl) rfl fun a hf => oa hf rfl rfl fun a hf => oN <| ct ?_
     have ho := oI hp
     subst ho
     exact ⟨false, rfl, hw, hf.to ⟨rfl, trivial⟩⟩
   ·replace hp := cond_f hb50 hp
    refine oS hf (g := 17) rfl rfl rfl rfl rfl rfl fun a hf => oS hf (g := 17) rfl rfl rfl rfl rfl rfl fun a hf => oS hf (g := 17) rfl rfl rfl rfl rfl rfl fun a hf => oS hf (g := 17) rfl rfl rfl rfl rfl rfl fun a hf => oS hf (g := 17) rfl rfl rfl rfl rfl rfl fun a hf => oR hf (pF hf rfl rfl) rfl fun a hf => om hf rfl rfl fun a hf => oS hf (g := 24) rfl rfl rfl rfl rfl rfl fun a hf => oS hf (g := 24) rfl rfl rfl rfl rfl rfl fun a hf => oS hf (g := 24) rfl rfl rfl rfl rfl rfl fun a hf => oS hf (g := 24) rfl rfl rfl rfl rfl rfl fun a hf => oS hf (g := 24) rfl rfl rfl rfl rfl rfl fun a hf => oR hf (pF hf rfl rfl) rfl fun a hf => om hf rfl rfl fun a hf => oS hf (g := 31) rfl rfl rfl rfl rfl rfl fun a hf => oS hf (g := 31) rfl rfl rfl rfl rfl rfl fun a hf => ?_
    refine oS hf (g := 31) rfl rfl rfl rfl rfl rfl fun a hf => oS hf (g := 31) rfl rfl rfl rfl rfl rfl fun a hf => oS hf (g := 31) rfl rfl rfl rfl rfl rfl fun a hf => oR hf (pF hf rfl rfl) rfl fun a hf => om hf rfl rfl fun a hf => oS hf (g := 38) rfl rfl rfl rfl rfl rfl fun a hf => oS hf (g := 38) rfl rfl rfl rfl rfl rfl fun a hf => oS hf (g := 38) rfl rfl rfl rfl rfl rfl fun a hf => oS hf (g := 38) rfl rfl rfl rfl rfl rfl fun a hf => oS hf (g := 38) rfl rfl rfl rfl rfl rfl fun a hf => oR hf (pF hf rfl rfl) rfl fun a hf => oa hf rfl rfl fun a hf => oN <| ct ?_
    have ho := oI hp
    subst ho
    exact ⟨false, rfl, hw, hf.to ⟨rfl, trivial⟩⟩
  ·replace hp := cond_f hb49 hp
   refine oS hf (g := 10) rfl rfl rfl rfl rfl rfl fun a hf => oS hf (g := 10) rfl rfl rfl rfl rfl rfl fun a hf => oS hf (g := 10) rfl rfl rfl rfl rfl rfl fun a hf => oS hf (g := 10) rfl rfl rfl rfl rfl rfl fun a hf => oS hf (g := 10) rfl rfl rfl rfl rfl rfl fun a hf => oR hf (pF hf rfl rfl) rfl fun a hf => om hf rfl rfl fun a hf => oS hf (g := 17) rfl rfl rfl rfl rfl rfl fun a hf => oS hf (g := 17) rfl rfl rfl rfl rfl rfl fun a hf => oS hf (g := 17) rfl rfl rfl rfl rfl rfl fun a hf => oS hf (g := 17) rfl rfl rfl rfl rfl rfl fun a hf => oS hf (g := 17) rfl rfl rfl rfl rfl rfl fun a hf => oR hf (pF hf rfl rfl) rfl fun a hf => om hf rfl rfl fun a hf => oS hf (g := 24) rfl rfl rfl rfl rfl rfl fun a hf => oS hf (g := 24) rfl rfl rfl rfl rfl rfl fun a hf => ?_
   refine oS hf (g := 24) rfl rfl rfl rfl rfl rfl fun a hf => oS hf (g := 24) rfl rfl rfl rfl rfl rfl fun a hf => oS hf (g := 24) rfl rfl rfl rfl rfl rfl fun a hf => oR hf (pF hf rfl rfl) rfl fun a hf => om hf rfl rfl fun a hf => oS hf (g := 31) rfl rfl rfl rfl rfl rfl fun a hf => oS hf (g := 31) rfl rfl rfl rfl rfl rfl fun a hf => oS hf (g := 31) rfl rfl rfl rfl rfl rfl fun a hf => oS hf (g := 31) rfl rfl rfl rfl rfl rfl fun a hf => oS hf (g := 31) rfl rfl rfl rfl rfl rfl fun a hf => oR hf (pF hf rfl rfl) rfl fun a hf => om hf rfl rfl fun a hf => oS hf (g := 38) rfl rfl rfl rfl rfl rfl fun a hf => oS hf (g := 38) rfl rfl rfl rfl rfl rfl fun a hf => oS hf (g := 38) rfl rfl rfl rfl rfl rfl fun a hf => oS hf (g := 38) rfl rfl rfl rfl rfl rfl fun a hf => ?_
   refine oS hf (g := 38) rfl rfl rfl rfl rfl rfl fun a hf => oR hf (pF hf rfl rfl) rfl fun a hf => oa hf rfl rfl fun a hf => oN <| ct ?_
   have ho := oI hp
   subst ho
   exact ⟨false, rfl, hw, hf.to ⟨rfl, trivial⟩⟩
 ·intro a w hM
  obtain ⟨y46, rfl, hw, hf⟩ := hM
  replace hp := hq48
  refine wp_ret ?_
  replace hw : Ok E I (F) w := hw.sub (sc (sc sr))
  have ho := oI hp
  subst ho
  exact b_ret1 hf Go.Proofs.Tryd.results20 rfl ⟨_, rfl, ⟨rfl, hw⟩⟩
end Go.Lf
