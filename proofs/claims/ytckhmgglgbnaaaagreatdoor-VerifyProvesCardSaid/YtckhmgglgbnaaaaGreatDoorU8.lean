/- A string's bytes as a slice: a row that bears a mark behind its end. -/
import Derived.Test.YtckhmgglgbnaaaaGreatDoorU5
import Derived.Lib.ConvBytes
set_option linter.unusedVariables false
set_option linter.unusedSimpArgs false
namespace Go.Lf
open Go
def nums (s : ByteArray) : List Int := s.data.toList.map fun b => ((b.toNat : Nat) : Int)
theorem nums_len (s : ByteArray) : (nums s).length = s.size := by
 unfold nums
 rw [List.length_map, Array.length_toList]
 rfl
/-- A row of bytes that came of a string: it bears a mark behind its end. -/
def SB (A : Atom) (v : Value) (e : TypeId) (xs : List Int) : Prop :=
 ∃ (b : Nat) (cs : List Value) (cap : Nat), A = .blk b (.cells ⟨cs⟩ e (cs.length, cs.length + 1)) ∧ v = .slice (some ⟨b, 0, none⟩) xs.length cap ∧ xs.length ≤ cap ∧ xs.length ≤ 9223372036854775807 ∧ xs.length ≤ cs.length ∧ ∀ (i : Nat) (x : Int), xs[i]? = some x → cs[i]? = some (Value.int .u8 x)
theorem SB.mono {A : Atom} {v : Value} {e : TypeId} {xs : List Int} {I J : IH} (h : SB A v e xs) (_ : IH.le I J) : SB A v e xs := h
theorem SB.one {A : Atom} {v : Value} {e : TypeId} {xs : List Int} (h : SB A v e xs) : v.oneCell' = true := by
 obtain ⟨b, cs, cap, -, rfl, -⟩ := h
 rfl
section
variable {P : Program} {a : Act} {w : World} {E : World} {I : IH} {O : List Atom} {n : Nat} {L : List (Nat × Value)}
theorem sb_rd (hw : Ok E I O w) {A : Atom} {v : Value} {e : TypeId} {xs : List Int} {i : Nat} (hO : O[i]? = some A) (h : SB A v e xs) : Rd (ekI .u8) I w v xs := by
 obtain ⟨b, cs, cap, rfl, rfl, h1, h2, h3, h4⟩ := h
 refine ⟨⟨h2, h1⟩, _, cap, rfl, .inr ⟨b, 0, cs, e, _, rfl, hw.own _ (List.mem_of_getElem? hO), fun i x hx => ?_⟩⟩
 have h := h4 i x hx
 have hi : i < cs.length := (List.getElem?_eq_some_iff.1 h).1
 show List.take 1 (cs.drop (0 + i * 1)) = [.int .u8 x]
 rw [Nat.zero_add, Nat.mul_one, List.drop_eq_getElem_cons hi]
 have : cs[i] = .int .u8 x := (List.getElem?_eq_some_iff.1 h).2
 rw [this]
 rfl
theorem e_convSB (hw : Ok E I O w) (hf : Fr n L a) {s t e : TypeId} {x : Operand} {X : ByteArray} {u : TypeDesc} (hs : P.underlying s = some u) (ht : P.underlying t = some (.slice e)) (he : P.underlying e = some (.int .u8)) (hx : ev L x = some (.string X)) (hb : X.size ≤ 274877906944) :
  ∃ w' v A, (∀ (d : Nat) (ty : TypeId) (pos : String) (aft : Array Edge) (gd : Option (Nat × Bool)), (execOp a.eval (⟨some d, .convert s t x, ty, pos, aft, gd⟩ : Oper)).run P w = .ok (.value v) w') ∧ Ok E I (A :: O) w' ∧ SB A v e (nums X) := by
 have hrun := Lib.run_convert_string_bytes (P := P) w s t e X hs ht he
 have hnew := Lib.bytesWorld_at_new w e X
 have hcap := grownCap_ge w X.size 0 e
 refine ⟨Lib.bytesWorld w e X, .slice (some ⟨w.heap.size, 0, none⟩) X.size (grownCap w X.size 0 e), .blk w.heap.size (.cells (Lib.bytesCells w e X) e ((Lib.bytesCells w e X).size, (Lib.bytesCells w e X).size + 1)), ?_, ?_, ?_⟩
 ·intro _ _ _ _ _
  simp [execOp, hf.ev hx, hrun]
 ·refine hw.new ⟨rfl, rfl, rfl, ?_, fun k hk _ => Lib.bytesWorld_at_old w e X k hk⟩ hnew ?_
  ·rw [Lib.bytesWorld_size]; omega
  ·intro b hb
   have : w.heap.size = b := by simpa [Atom.foot] using hb
   omega
 ·refine ⟨w.heap.size, (Lib.bytesCells w e X).toList, grownCap w X.size 0 e, by simp, by rw [nums_len], by rw [nums_len]; exact hcap, by rw [nums_len]; omega, ?_, ?_⟩
  ·rw [nums_len]
   simp [Lib.bytesCells]
  ·intro i y hy
   have hi : i < X.size := by rw [← nums_len]; exact (List.getElem?_eq_some_iff.1 hy).1
   have hi' : i < X.data.size := hi
   simp only [nums, List.getElem?_map, Array.getElem?_toList] at hy
   rw [Array.getElem?_eq_getElem hi'] at hy
   simp only [Option.map_some, Option.some.injEq] at hy
   subst hy
   rw [Array.getElem?_toList, Lib.bytesCells, Array.getElem?_append]
   simp [hi', hi]
end
end Go.Lf
