/- The structs of the program, as Lean structures, and how they lie in memory (printed by our lift.py). -/
import Derived.Test.YtckhmgglgbnaaaaU7
import Derived.Test.YtckhmgglgbnaaaaU8
import Derived.Test.YtckhmgglgbnaaaaUM
set_option linter.unusedVariables false
set_option linter.unusedSimpArgs false
namespace Go.Lf
open Go
structure Pair where
  key_ : ByteArray
  value_ : ByteArray
  deriving Inhabited, DecidableEq

def enc_Pair (x : Pair) : List Value := [.string x.key_, .string x.value_]
def ek_Pair : EK Pair := ekP enc_Pair 2 (by decide) (fun x => by simp [enc_Pair, arrC_len]) (fun x => (ones_cons rfl (ones_cons rfl ones_nil)))
theorem Pair_all {I : IH} {x : Pair} {cs : List Value} (h : ek_Pair.rel I x cs) : (cs.drop 0).take 2 = ([.string x.key_, .string x.value_]) := by have h : cs = enc_Pair x := h; subst h; exact take_all (by simp [enc_Pair, arrC_len])
theorem Pair_f0 {I : IH} {x : Pair} {cs : List Value} (h : ek_Pair.rel I x cs) : cs[0]? = some (.string x.key_) := by have h : cs = enc_Pair x := h; subst h; rfl
theorem Pair_f1 {I : IH} {x : Pair} {cs : List Value} (h : ek_Pair.rel I x cs) : cs[1]? = some (.string x.value_) := by have h : cs = enc_Pair x := h; subst h; rfl
structure Node where
  kind_ : Int
  path_ : ByteArray
  has_ : Bool
  value_ : ByteArray
  kids_ : Vector Int 16
  deriving Inhabited, DecidableEq

def enc_Node (x : Node) : List Value := .int .i64 x.kind_ :: .string x.path_ :: .bool x.has_ :: .string x.value_ :: arrC .i64 x.kids_
def ek_Node : EK Node := ekP enc_Node 20 (by decide) (fun x => by simp [enc_Node, arrC_len]) (fun x => (ones_cons rfl (ones_cons rfl (ones_cons rfl (ones_cons rfl (arrC_one _ _))))))
theorem Node_all {I : IH} {x : Node} {cs : List Value} (h : ek_Node.rel I x cs) : (cs.drop 0).take 20 = (.int .i64 x.kind_ :: .string x.path_ :: .bool x.has_ :: .string x.value_ :: arrC .i64 x.kids_) := by have h : cs = enc_Node x := h; subst h; exact take_all (by simp [enc_Node, arrC_len])
theorem Node_set0 {I : IH} {x : Node} {cs : List Value} (h : ek_Node.rel I x cs) {y : Int} : ek_Node.rel I { x with kind_ := y } (cs.take 0 ++ [.int .i64 y] ++ cs.drop (0 + 1)) := by have h : cs = enc_Node x := h; subst h; rfl
theorem Node_set2 {I : IH} {x : Node} {cs : List Value} (h : ek_Node.rel I x cs) {y : Bool} : ek_Node.rel I { x with has_ := y } (cs.take 2 ++ [.bool y] ++ cs.drop (2 + 1)) := by have h : cs = enc_Node x := h; subst h; rfl
theorem Node_set3 {I : IH} {x : Node} {cs : List Value} (h : ek_Node.rel I x cs) {y : ByteArray} : ek_Node.rel I { x with value_ := y } (cs.take 3 ++ [.string y] ++ cs.drop (3 + 1)) := by have h : cs = enc_Node x := h; subst h; rfl
theorem Node_arr {I : IH} {x : Node} {cs : List Value} (h : ek_Node.rel I x cs) : (cs.drop 4).take 16 = arrC .i64 x.kids_ := by have h : cs = enc_Node x := h; subst h; exact take_all (arrC_len _ _)
theorem Node_at {I : IH} {x : Node} {cs : List Value} (h : ek_Node.rel I x cs) {i : Int} (hi : 0 ≤ i ∧ i < 16) : cs[4 + i.toNat]? = some (.int .i64 (vg x.kids_ i)) := by have h : cs = enc_Node x := h; subst h; exact arr_at (v := x.kids_) rfl hi
theorem Node_setat {I : IH} {x : Node} {cs : List Value} (h : ek_Node.rel I x cs) {i y : Int} (hi : 0 ≤ i ∧ i < 16) : ek_Node.rel I { x with kids_ := vset x.kids_ i y } (cs.take (4 + i.toNat) ++ [.int .i64 y] ++ cs.drop (4 + i.toNat + 1)) := by have h : cs = enc_Node x := h; subst h; exact arr_store (pre := [.int .i64 x.kind_, .string x.path_, .bool x.has_, .string x.value_]) (v := x.kids_) rfl rfl rfl hi

structure ref10_Both_T where
  t_ : List Node
  p_ : List ByteArray
  ok_ : Bool
  deriving Inhabited, DecidableEq

structure ref02_Text_T where
  s_ : ByteArray
  ok_ : Bool
  deriving Inhabited, DecidableEq

structure ref10_Got_T where
  l_ : List Pair
  ok_ : Bool
  deriving Inhabited, DecidableEq

structure Plan where
  prefix_ : ByteArray
  top_ : Int
  nodes_ : List Int
  kids_ : List Int
  deriving Inhabited, DecidableEq

def ek_Plan : EK Plan where
  sz := 4
  pos := by decide
  rel := fun I x cs => ∃ v0 v1 : Value, cs = [.string x.prefix_, .int .i64 x.top_, v0, v1] ∧ RS (ekI .i64) I v0 x.nodes_ ∧ RS (ekI .i64) I v1 x.kids_
  mono := fun hI ⟨v0, v1, h, h0, h1⟩ => ⟨v0, v1, h, h0.mono hI, h1.mono hI⟩
  len := fun ⟨v0, v1, h, h0, h1⟩ => by rw [h]; simp [arrC_len]
  one := fun ⟨v0, v1, h, h0, h1⟩ => by subst h; exact (ones_cons rfl (ones_cons rfl (ones_cons h0.one (ones_cons h1.one ones_nil))))
theorem Plan_all {I : IH} {x : Plan} {cs : List Value} (h : ek_Plan.rel I x cs) : ∃ vs, (cs.drop 0).take 4 = vs ∧ vs.length = 4 ∧ ∃ v0 v1 : Value, vs = [.string x.prefix_, .int .i64 x.top_, v0, v1] ∧ RS (ekI .i64) I v0 x.nodes_ ∧ RS (ekI .i64) I v1 x.kids_ := by obtain ⟨v0, v1, rfl, h0, h1⟩ := h; exact ⟨_, take_all (by simp [arrC_len]), by simp [arrC_len], v0, v1, rfl, h0, h1⟩
theorem Plan_f1 {I : IH} {x : Plan} {cs : List Value} (h : ek_Plan.rel I x cs) : cs[1]? = some (.int .i64 x.top_) := by obtain ⟨v0, v1, rfl, h0, h1⟩ := h; rfl
structure ref19_All_T where
  l_ : List Plan
  ok_ : Bool
  deriving Inhabited, DecidableEq

structure trie_walker_T where
  p_t_ : List Node
  p_next_ : Int
  p_l_ : List Pair
  p_paths_ : List ByteArray
  deriving Inhabited, DecidableEq

structure Slot where
  kind_ : Int
  path_ : ByteArray
  has_ : Bool
  value_ : ByteArray
  kids_ : Vector Int 16
  deriving Inhabited, DecidableEq

def enc_Slot (x : Slot) : List Value := .int .i64 x.kind_ :: .string x.path_ :: .bool x.has_ :: .string x.value_ :: arrC .i64 x.kids_
def ek_Slot : EK Slot := ekP enc_Slot 20 (by decide) (fun x => by simp [enc_Slot, arrC_len]) (fun x => (ones_cons rfl (ones_cons rfl (ones_cons rfl (ones_cons rfl (arrC_one _ _))))))
theorem Slot_all {I : IH} {x : Slot} {cs : List Value} (h : ek_Slot.rel I x cs) : (cs.drop 0).take 20 = (.int .i64 x.kind_ :: .string x.path_ :: .bool x.has_ :: .string x.value_ :: arrC .i64 x.kids_) := by have h : cs = enc_Slot x := h; subst h; exact take_all (by simp [enc_Slot, arrC_len])
theorem Slot_f3 {I : IH} {x : Slot} {cs : List Value} (h : ek_Slot.rel I x cs) : cs[3]? = some (.string x.value_) := by have h : cs = enc_Slot x := h; subst h; rfl
theorem Slot_at {I : IH} {x : Slot} {cs : List Value} (h : ek_Slot.rel I x cs) {i : Int} (hi : 0 ≤ i ∧ i < 16) : cs[4 + i.toNat]? = some (.int .i64 (vg x.kids_ i)) := by have h : cs = enc_Slot x := h; subst h; exact arr_at (v := x.kids_) rfl hi
def eq_Node (x y : Node) : Bool := decide (x = y)
theorem eqc_Node (x y : Node) : ((x.kind_ == y.kind_) && ((x.path_.toList == y.path_.toList) && ((x.has_ == y.has_) && ((x.value_.toList == y.value_.toList) && ((decide (x.kids_ = y.kids_)) && true))))) = eq_Node x y := by
  unfold eq_Node
  cases x; cases y
  rw [Bool.eq_iff_iff]
  simp only [tl_eq, Bool.and_eq_true, beq_iff_eq, decide_eq_true_eq, Node.mk.injEq, and_true]
end Go.Lf
