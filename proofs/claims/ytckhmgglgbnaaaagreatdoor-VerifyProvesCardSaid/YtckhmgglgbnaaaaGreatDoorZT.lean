/- The structs of the program, as Lean structures, and how they lie in memory (printed by our lift.py). -/
import Derived.Test.YtckhmgglgbnaaaaGreatDoorU7
import Derived.Test.YtckhmgglgbnaaaaGreatDoorU9
set_option linter.unusedVariables false
set_option linter.unusedSimpArgs false
namespace Go.Lf
open Go
structure Pair where
  key_ : ByteArray
  value_ : ByteArray
  deriving Inhabited, DecidableEq

def enc_Pair (x : Pair) : List Value := [.string x.key_, .string x.value_]
def ek_Pair : EK Pair := ekP enc_Pair 2 (by decide) (fun x => by simp [enc_Pair, arrC_len]) (fun x => (ones_cons rfl (ones_cons rfl ones_nil)))
theorem Pair_all {I : IH} {x : Pair} {cs : List Value} (h : ek_Pair.rel I x cs) : (cs.drop 0).take 2 = ([.string x.key_, .string x.value_]) := by have h : cs = enc_Pair x := h; subst h; exact take_all (by simp [enc_Pair, arrC_len])
theorem Pair_f0 {I : IH} {x : Pair} {cs : List Value} (h : ek_Pair.rel I x cs) : cs[0]? = some (.string x.key_) := by have h : cs = enc_Pair x := h; subst h; rfl
theorem Pair_f1 {I : IH} {x : Pair} {cs : List Value} (h : ek_Pair.rel I x cs) : cs[1]? = some (.string x.value_) := by have h : cs = enc_Pair x := h; subst h; rfl
structure Node where
  kind_ : Int
  path_ : ByteArray
  has_ : Bool
  value_ : ByteArray
  kids_ : Vector Int 16
  deriving Inhabited, DecidableEq

def enc_Node (x : Node) : List Value := .int .i64 x.kind_ :: .string x.path_ :: .bool x.has_ :: .string x.value_ :: arrC .i64 x.kids_
def ek_Node : EK Node := ekP enc_Node 20 (by decide) (fun x => by simp [enc_Node, arrC_len]) (fun x => (ones_cons rfl (ones_cons rfl (ones_cons rfl (ones_cons rfl (arrC_one _ _))))))
theorem Node_all {I : IH} {x : Node} {cs : List Value} (h : ek_Node.rel I x cs) : (cs.drop 0).take 20 = (.int .i64 x.kind_ :: .string x.path_ :: .bool x.has_ :: .string x.value_ :: arrC .i64 x.kids_) := by have h : cs = enc_Node x := h; subst h; exact take_all (by simp [enc_Node, arrC_len])
theorem Node_set0 {I : IH} {x : Node} {cs : List Value} (h : ek_Node.rel I x cs) {y : Int} : ek_Node.rel I { x with kind_ := y } (cs.take 0 ++ [.int .i64 y] ++ cs.drop (0 + 1)) := by have h : cs = enc_Node x := h; subst h; rfl
theorem Node_set2 {I : IH} {x : Node} {cs : List Value} (h : ek_Node.rel I x cs) {y : Bool} : ek_Node.rel I { x with has_ := y } (cs.take 2 ++ [.bool y] ++ cs.drop (2 + 1)) := by have h : cs = enc_Node x := h; subst h; rfl
theorem Node_set3 {I : IH} {x : Node} {cs : List Value} (h : ek_Node.rel I x cs) {y : ByteArray} : ek_Node.rel I { x with value_ := y } (cs.take 3 ++ [.string y] ++ cs.drop (3 + 1)) := by have h : cs = enc_Node x := h; subst h; rfl
theorem Node_setat {I : IH} {x : Node} {cs : List Value} (h : ek_Node.rel I x cs) {i y : Int} (hi : 0 ≤ i ∧ i < 16) : ek_Node.rel I { x with kids_ := vset x.kids_ i y } (cs.take (4 + i.toNat) ++ [.int .i64 y] ++ cs.drop (4 + i.toNat + 1)) := by have h : cs = enc_Node x := h; subst h; exact arr_store (pre := [.int .i64 x.kind_, .string x.path_, .bool x.has_, .string x.value_]) (v := x.kids_) rfl rfl rfl hi

structure ref10_Both_T where
  t_ : List Node
  p_ : List ByteArray
  ok_ : Bool
  deriving Inhabited, DecidableEq

structure ref02_Text_T where
  s_ : ByteArray
  ok_ : Bool
  deriving Inhabited, DecidableEq

structure ref10_Got_T where
  l_ : List Pair
  ok_ : Bool
  deriving Inhabited, DecidableEq

structure Item where
  kind_ : Int
  path_ : ByteArray
  has_ : Bool
  value_ : ByteArray
  mask_ : Int
  hashes_ : List ByteArray
  deriving Inhabited, DecidableEq

def ek_Item : EK Item where
  sz := 6
  pos := by decide
  rel := fun I x cs => ∃ v0 : Value, cs = [.int .i64 x.kind_, .string x.path_, .bool x.has_, .string x.value_, .int .i64 x.mask_, v0] ∧ RS ekS I v0 x.hashes_
  mono := fun hI ⟨v0, h, h0⟩ => ⟨v0, h, h0.mono hI⟩
  len := fun ⟨v0, h, h0⟩ => by rw [h]; simp [arrC_len]
  one := fun ⟨v0, h, h0⟩ => by subst h; exact (ones_cons rfl (ones_cons rfl (ones_cons rfl (ones_cons rfl (ones_cons rfl (ones_cons h0.one ones_nil))))))
theorem Item_all {I : IH} {x : Item} {cs : List Value} (h : ek_Item.rel I x cs) : ∃ vs, (cs.drop 0).take 6 = vs ∧ vs.length = 6 ∧ ∃ v0 : Value, vs = [.int .i64 x.kind_, .string x.path_, .bool x.has_, .string x.value_, .int .i64 x.mask_, v0] ∧ RS ekS I v0 x.hashes_ := by obtain ⟨v0, rfl, h0⟩ := h; exact ⟨_, take_all (by simp [arrC_len]), by simp [arrC_len], v0, rfl, h0⟩
structure ref11_All_T where
  i_ : List Item
  h_ : List ByteArray
  ok_ : Bool
  deriving Inhabited, DecidableEq

structure Answer where
  has_ : Bool
  value_ : ByteArray
  deriving Inhabited, DecidableEq

structure verify_state_T where
  p_left_ : ByteArray
  p_hash_ : ByteArray
  p_over_ : Bool
  p_answer_ : Answer
  deriving Inhabited, DecidableEq

structure trie_walker_T where
  p_t_ : List Node
  p_next_ : Int
  p_l_ : List Pair
  p_paths_ : List ByteArray
  deriving Inhabited, DecidableEq

structure get_way_T where
  p_t_ : List Node
  p_left_ : ByteArray
  p_nodes_ : List Int
  deriving Inhabited, DecidableEq

structure node_face_T where
  p_kind_ : Int
  p_path_ : ByteArray
  p_has_ : Bool
  p_value_ : ByteArray
  p_mask_ : Int
  deriving Inhabited, DecidableEq

def eq_Answer (x y : Answer) : Bool := decide (x = y)
theorem eqc_Answer (x y : Answer) : ((x.has_ == y.has_) && ((x.value_.toList == y.value_.toList) && true)) = eq_Answer x y := by
  unfold eq_Answer
  cases x; cases y
  rw [Bool.eq_iff_iff]
  simp only [tl_eq, Bool.and_eq_true, beq_iff_eq, decide_eq_true_eq, Answer.mk.injEq, and_true]

def eq_Node (x y : Node) : Bool := decide (x = y)
theorem eqc_Node (x y : Node) : ((x.kind_ == y.kind_) && ((x.path_.toList == y.path_.toList) && ((x.has_ == y.has_) && ((x.value_.toList == y.value_.toList) && ((decide (x.kids_ = y.kids_)) && true))))) = eq_Node x y := by
  unfold eq_Node
  cases x; cases y
  rw [Bool.eq_iff_iff]
  simp only [tl_eq, Bool.and_eq_true, beq_iff_eq, decide_eq_true_eq, Node.mk.injEq, and_true]

def eq_node_face_T (x y : node_face_T) : Bool := decide (x = y)
theorem eqc_node_face_T (x y : node_face_T) : ((x.p_kind_ == y.p_kind_) && ((x.p_path_.toList == y.p_path_.toList) && ((x.p_has_ == y.p_has_) && ((x.p_value_.toList == y.p_value_.toList) && ((x.p_mask_ == y.p_mask_) && true))))) = eq_node_face_T x y := by
  unfold eq_node_face_T
  cases x; cases y
  rw [Bool.eq_iff_iff]
  simp only [tl_eq, Bool.and_eq_true, beq_iff_eq, decide_eq_true_eq, node_face_T.mk.injEq, and_true]
def glob_0 : Vector Int 8 := #v[1779033703, 3144134277, 1013904242, 2773480762, 1359893119, 2600822924, 528734635, 1541459225]
def glob_1 : Vector Int 64 := #v[1116352408, 1899447441, 3049323471, 3921009573, 961987163, 1508970993, 2453635748, 2870763221, 3624381080, 310598401, 607225278, 1426881987, 1925078388, 2162078206, 2614888103, 3248222580, 3835390401, 4022224774, 264347078, 604807628, 770255983, 1249150122, 1555081692, 1996064986, 2554220882, 2821834349, 2952996808, 3210313671, 3336571891, 3584528711, 113926993, 338241895, 666307205, 773529912, 1294757372, 1396182291, 1695183700, 1986661051, 2177026350, 2456956037, 2730485921, 2820302411, 3259730800, 3345764771, 3516065817, 3600352804, 4094571909, 275423344, 430227734, 506948616, 659060556, 883997877, 958139571, 1322822218, 1537002063, 1747873779, 1955562222, 2024104815, 2227730452, 2361852424, 2428436474, 2756734187, 3204031479, 3329325298]
structure Gl (I : IH) : Prop where
  g0 : ∃ e fr, I 0 = some (.cells ⟨arrC .u32 glob_0⟩ e fr)
  g1 : ∃ e fr, I 1 = some (.cells ⟨arrC .u32 glob_1⟩ e fr)
theorem Gl.mono {I J : IH} (h : Gl I) (hI : IH.le I J) : Gl J := ⟨(by obtain ⟨e, fr, x⟩ := h.g0; exact ⟨e, fr, hI _ _ x⟩), (by obtain ⟨e, fr, x⟩ := h.g1; exact ⟨e, fr, hI _ _ x⟩)⟩
end Go.Lf
