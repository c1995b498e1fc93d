/- The listed package variables' cells, out of a row's condition. -/
import Derived.Test.YtckhmgglgbnaaaaGreatDoorRows
import Derived.Test.YtckhmgglgbnaaaaGreatDoorZF
import Derived.Test.YtckhmgglgbnaaaaGreatDoorU6
import Derived.LaidMore
import Derived.OpenShut
import Derived.Stop.Joined
set_option linter.unusedVariables false
namespace Go.Lf
open Go Go.Proofs.YtckhmgglgbnaaaaGreatDoor Go.ChangeShapes
abbrev laidD : List (String × DataW Unit) := [("umbel/digest.begin", Rows.laid_umbel_digest_begin), ("umbel/digest.rounds", Rows.laid_umbel_digest_rounds)]
theorem own_ : ownKnob Go.Proofs.Tryz.prog.godebug = none := by kernel_rfl
theorem laidOut_ : laidOutB Go.Proofs.Tryz.prog = true := by kernel_rfl
theorem nBegin : Go.Proofs.Tryz.prog.globalNamed "umbel/digest.begin" = some 0 := by kernel_rfl
theorem nRounds : Go.Proofs.Tryz.prog.globalNamed "umbel/digest.rounds" = some 1 := by kernel_rfl
theorem tBegin : (Go.Proofs.Tryz.prog.globals[0]?).map (·.type) = some 163 := by kernel_rfl
theorem tRounds : (Go.Proofs.Tryz.prog.globals[1]?).map (·.type) = some 165 := by kernel_rfl
theorem u163 : Go.Proofs.Tryz.prog.underlying 163 = some (.array 8 109) := by kernel_rfl
theorem u165 : Go.Proofs.Tryz.prog.underlying 165 = some (.array 64 109) := by kernel_rfl
theorem u109 : Go.Proofs.Tryz.prog.underlying 109 = some (.int .u32) := by kernel_rfl
theorem c109 : Go.Proofs.Tryz.prog.cellsOf 109 = 1 := by kernel_rfl
theorem c163 : Go.Proofs.Tryz.prog.cellsOf 163 = 8 := by kernel_rfl
theorem c165 : Go.Proofs.Tryz.prog.cellsOf 165 = 64 := by kernel_rfl
/-- The cells of an array of numbers that reads as these. -/
theorem cells_arr {H : Type} {enc : TypeId × Value → H} {P : Program} {W : World} {spare : Nat → Bool} {held : Bool} {fuel t e n : Nat} {k : IntKind} {cs : List Value} {ps : List MemPlace} {zs : List Int} (ht : P.underlying t = some (.array n e)) (he : P.underlying e = some (.int k)) (hc : P.cellsOf e = 1) (hct : P.cellsOf t = n)
  (h : DataW.trod enc P W 0 spare held fuel t cs = some (.agg (zs.map fun z => .lit (.int k z)), ps)) : cs = zs.map (Value.int k) := by
 obtain ⟨xs, m, -, hx, hl, hn, hel⟩ := DataW.trod_array ht h
 simp only [Prod.mk.injEq, DataW.agg.injEq] at hx
 have hx1 := hx.1
 have hlen : zs.length = n := by
  have := congrArg List.length hx1
  simp at this
  omega
 apply List.ext_getElem?
 intro i
 rcases Nat.lt_or_ge i n with hi | hi
 ·have h1 := hel i hi
  rw [hc, Nat.mul_one, List.getElem?_eq_getElem (by omega)] at h1
  obtain ⟨q, e1, e2, -⟩ := DataW.trod_int he h1
  have h2 := congrArg (fun l => l[i]?) hx1
  simp only [List.getElem?_map] at h2
  rw [List.getElem?_eq_getElem (show i < xs.length by omega), List.getElem?_eq_getElem (show i < zs.length by omega), e2] at h2
  simp at h2
  have h3 := congrArg (fun l : List Value => l[0]?) e1
  simp [List.getElem?_take, List.getElem?_drop] at h3
  rw [h3, List.getElem?_map, List.getElem?_eq_getElem (show i < zs.length by omega), h2]
  rfl
 ·rw [List.getElem?_eq_none (by omega), List.getElem?_eq_none (by simp; omega)]
theorem var_heap {P : Program} {W : World} {n : String} {g : Nat} {cs : Array Value} (hg : P.globalNamed n = some g) (h : W.var? P n = some cs) : ∃ e fr, W.heap[g]? = some (.cells cs e fr) := by
 unfold World.var? at h
 rw [hg, Option.bind_some] at h
 split at h
 ·rename_i c e fr hh
  cases h
  exact ⟨e, fr, hh⟩
 ·cases h
theorem begin_data : (Rows.laid_umbel_digest_begin : DataW Unit) = .agg (glob_0.toList.map fun z => .lit (.int .u32 z)) := rfl
theorem rounds_data : (Rows.laid_umbel_digest_rounds : DataW Unit) = .agg (glob_1.toList.map fun z => .lit (.int .u32 z)) := rfl
theorem gl_of_laid {W : World} (h : laidMetH Go.Proofs.Tryz.prog laidD W) : Gl (IW W) := by
 rw [MakeChecks.laidMetH_plain _ _ _ (by kernel_rfl)] at h
 obtain ⟨ps, ⟨g0, t0, cs0, f0, p0, q0, hg0, ht0, hv0, hd0, ⟨g1, t1, cs1, f1, p1, q1, hg1, ht1, hv1, hd1, _, _⟩, _⟩, _, _⟩ := h
 obtain rfl := Option.some.inj (nBegin.symm.trans hg0)
 obtain rfl := Option.some.inj (nRounds.symm.trans hg1)
 obtain rfl := Option.some.inj (tBegin.symm.trans ht0)
 obtain rfl := Option.some.inj (tRounds.symm.trans ht1)
 rw [begin_data] at hd0
 rw [rounds_data] at hd1
 have e0 := cells_arr u163 u109 c109 c163 hd0
 have e1 := cells_arr u165 u109 c109 c165 hd1
 obtain ⟨a0, b0, h0⟩ := var_heap nBegin hv0
 obtain ⟨a1, b1, h1⟩ := var_heap nRounds hv1
 refine ⟨⟨a0, b0, ?_⟩, ⟨a1, b1, ?_⟩⟩
 ·show W.heap[0]? = _
  rw [h0]
  obtain ⟨l⟩ := cs0
  have e0 : l = _ := e0
  rw [e0]
  rfl
 ·show W.heap[1]? = _
  rw [h1]
  obtain ⟨l⟩ := cs1
  have e1 : l = _ := e1
  rw [e1]
  rfl
theorem door_met (os : Os) (args : Array Value) : laidMetH Go.Proofs.Tryz.prog laidD ((World.doorLaid Go.Proofs.Tryz.prog 19 os).forCall (fun _ _ => 0) ⟨#[], args, []⟩).memory :=
 laidMetH_of_parts3 (fuel := 8) (laidMet_of_run' 8 (by kernel_rfl) (by kernel_rfl)) (by kernel_rfl) (by kernel_rfl)
theorem opens_pair {H : Type} {enc : TypeId × Value → H} : Opens enc P 74 ek_Pair (fun x => x.key_.size ≤ maxLen ∧ x.value_.size ≤ maxLen) := fun W fuel cs r h => by
 obtain ⟨hl, f0, r0, h0⟩ := trod_field h (k := 0) (off := 0) (ft := 9) (m := 1) (by kernel_rfl)
 obtain ⟨-, f1, r1, h1⟩ := trod_field h (k := 1) (off := 1) (ft := 9) (m := 1) (by kernel_rfl)
 obtain ⟨s0, e0, b0⟩ := opens_string (by kernel_rfl) _ _ _ _ h0
 obtain ⟨s1, e1, b1⟩ := opens_string (by kernel_rfl) _ _ _ _ h1
 have hc : P.cellsOf 74 = 2 := by kernel_rfl
 rw [hc] at hl
 refine ⟨⟨s0, s1⟩, ?_, b0, b1⟩
 match cs, hl with
 | [a, b], _ =>
  have e0 : [a] = [.string s0] := e0
  have e1 : [b] = [.string s1] := e1
  cases e0; cases e1; rfl
end Go.Lf
