/- Package variables, slices made with room, slices as arrays, two results of which the first lies in memory. -/
import Derived.Test.YtckhmgglgbnaaaaU8
import Derived.Lib.Join
set_option linter.unusedVariables false
set_option linter.unusedSimpArgs false
namespace Go.Lf
open Go
/-- strings.Join. -/
def strings_Join.f (a0 : List ByteArray) (a1 : ByteArray) : Option ByteArray :=
 gd (a0.length ≤ 140737488355328 ∧ (Lib.join (a0.map (·.data.toList)) a1.data.toList).length ≤ 140737488355328) <|
 some ⟨(Lib.join (a0.map (·.data.toList)) a1.data.toList).toArray⟩
/-- The first m of a list, as an array. -/
def vecN (m : Nat) (xs : List Int) : Vector Int m := Vector.ofFn fun i => xs.getD i.val 0
section
variable {P : Program} {ops : Array Oper} {a : Act} {w : World} {E : World} {I : IH} {O : List Atom} {n : Nat} {L : List (Nat × Value)} {ty : TypeId} {pos : String} {aft : Array Edge} {d : Nat} {gd : Option (Nat × Bool)}
end
/-! Short words for the rules, for texts that must be small -/
theorem wr : type_of% @wp_region_lit := @wp_region_lit
theorem ct : type_of% @c_then := @c_then
theorem wq : type_of% @wp_seq := @wp_seq
theorem oN : type_of% @o_nil := @o_nil
theorem oR : type_of% @o_run := @o_run
theorem rF : type_of% @r_fieldAddr := @r_fieldAddr
theorem oI : type_of% @out_inj := @out_inj
theorem gS : type_of% @gd_some := @gd_some
theorem bS : type_of% @bind_some := @bind_some
theorem oC : type_of% @ones_cons := @ones_cons
theorem pT : type_of% @r_pickT := @r_pickT
theorem pF : type_of% @r_pickF := @r_pickF
theorem iC : type_of% @r_icmp := @r_icmp
theorem nC : type_of% @r_nilCheck := @r_nilCheck
theorem oW : type_of% @o_want := @o_want
theorem rI : type_of% @r_indexAddr := @r_indexAddr
theorem rL : type_of% @r_load := @r_load
theorem tR : type_of% @t_rd := @t_rd
theorem tG : type_of% @t_rdG := @t_rdG
theorem tS : type_of% @t_rdS := @t_rdS
theorem rE : type_of% @r_extract := @r_extract
theorem cC : type_of% @c_cond := @c_cond
theorem rR : type_of% @row_rd := @row_rd
theorem oE : type_of% @one_cells := @one_cells
end Go.Lf
