/- Rules that came later: structs built of structs, a struct out of a struct. -/
import Derived.Test.YtckhmgglgbnaaaaU9
import Derived.Test.YtckhmgglgbnaaaaU7
set_option linter.unusedVariables false
set_option linter.unusedSimpArgs false
namespace Go.Lf
open Go
section
variable {P : Program} {ops : Array Oper} {E : World} {I : IH} {O : List Atom} {w : World} {n : Nat} {L : List (Nat × Value)} {a : Act} {ty : TypeId} {pos : String} {aft : Array Edge} {d : Nat} {gd : Option (Nat × Bool)}
def setAllA (ps : List (Nat × Nat)) : List Value → List (Nat × List Value) → Option (List Value)
 | cs, [] => some cs
 | cs, (i, c) :: r => match ps[i]? with
  | some (off, sz) => if c.length = sz then setAllA ps (cs.take off ++ c ++ cs.drop (off + sz)) r else none
  | none => none
end
abbrev e0 : ByteArray := ⟨#[]⟩
theorem oQ {P : Program} {ops : Array Oper} {Q : Exit → Act → World → Prop} {rest : List Oper} {a : Act} {w : World} {n : Nat} {L : List (Nat × Value)} {d : Nat} {o : Oper} (hf : Fr n L a) {j g : Nat} {want b : Bool} (h : (o.guard, (ops[j]?).bind (·.dst), lk L g, (b == want), o.dst, Nat.blt d n) = (some (j, want), some g, some (.bool b), false, some d, true))
  (k : ∀ a, Fr n ((d, undef) :: L) a → wpList P ops Q rest a w) : wpList P ops Q (o :: rest) a w := by
 simp only [Prod.mk.injEq] at h
 exact o_skip hf h.1 h.2.1 h.2.2.1 h.2.2.2.1 h.2.2.2.2.1 h.2.2.2.2.2 k
end Go.Lf
