/- A string's bytes as a slice: a row that bears a mark behind its end. -/
import Derived.Test.YtckhmgglgbnaaaaU5
import Derived.Lib.ConvBytes
set_option linter.unusedVariables false
set_option linter.unusedSimpArgs false
namespace Go.Lf
open Go
def nums (s : ByteArray) : List Int := s.data.toList.map fun b => ((b.toNat : Nat) : Int)
theorem nums_len (s : ByteArray) : (nums s).length = s.size := by
 unfold nums
 rw [List.length_map, Array.length_toList]
 rfl
/-- A row of bytes that came of a string: it bears a mark behind its end. -/
def SB (A : Atom) (v : Value) (e : TypeId) (xs : List Int) : Prop :=
 ∃ (b : Nat) (cs : List Value) (cap : Nat), A = .blk b (.cells ⟨cs⟩ e (cs.length, cs.length + 1)) ∧ v = .slice (some ⟨b, 0, none⟩) xs.length cap ∧ xs.length ≤ cap ∧ xs.length ≤ 9223372036854775807 ∧ xs.length ≤ cs.length ∧ ∀ (i : Nat) (x : Int), xs[i]? = some x → cs[i]? = some (Value.int .u8 x)
theorem SB.mono {A : Atom} {v : Value} {e : TypeId} {xs : List Int} {I J : IH} (h : SB A v e xs) (_ : IH.le I J) : SB A v e xs := h
theorem SB.one {A : Atom} {v : Value} {e : TypeId} {xs : List Int} (h : SB A v e xs) : v.oneCell' = true := by
 obtain ⟨b, cs, cap, -, rfl, -⟩ := h
 rfl
section
variable {P : Program} {a : Act} {w : World} {E : World} {I : IH} {O : List Atom} {n : Nat} {L : List (Nat × Value)}
end
end Go.Lf
