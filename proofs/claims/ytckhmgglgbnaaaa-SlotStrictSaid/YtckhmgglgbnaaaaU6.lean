/- The row: a law's inputs, opened as immutable lists, and the shutting of a law that returns true. -/
import Derived.Test.YtckhmgglgbnaaaaU5
import Derived.ProofKit
set_option linter.unusedVariables false
set_option linter.unusedSimpArgs false
namespace Go.Lf
open Go

/-- The memory that the call finds: all of it is immutable. -/
def IW (W : World) : IH := fun b => W.heap[b]?
theorem ok_start (W : World) : Ok W (IW W) [] W := ⟨rfl, rfl, rfl, fun _ _ h => h, by simp, List.Pairwise.nil, by simp⟩
theorem below_of {W W' : World} {I : IH} {O : List Atom} (h : Ok W I O W') (hI : IH.le (IW W) I) : RowKit.Below W.heap.size W W' := by
 refine ⟨h.os, h.tape, h.output, ?_, fun k hk => ?_⟩
 ·rcases Nat.eq_zero_or_pos W.heap.size with h0 | h0
  ·omega
  ·have : W.heap.size - 1 < W.heap.size := by omega
   have hx := h.imm _ _ (hI _ _ (Array.getElem?_eq_getElem this))
   have := (Array.getElem?_eq_some_iff.mp hx).1
   omega
 ·rw [h.imm _ _ (hI _ _ (Array.getElem?_eq_getElem hk)), Array.getElem?_eq_getElem hk]

section
variable {H : Type} (enc : TypeId × Value → H) (P : Program)
/-- What is read as a type's value is an element. -/
def Opens {α : Type} (t : TypeId) (K : EK α) (B : α → Prop) : Prop :=
 ∀ (W : World) (fuel : Nat) (cs : List Value) (r : DataW H × List MemPlace), DataW.trod enc P W 0 (fun _ => true) true fuel t cs = some r → ∃ x, K.rel (IW W) x cs ∧ B x
variable {enc P}

theorem opens_int {t : TypeId} {k : IntKind} (hu : P.underlying t = some (.int k)) : Opens enc P t (ekI k) (fun n => k.min ≤ n ∧ n ≤ k.max) := fun W fuel cs r h => by
 obtain ⟨n, rfl, -, hw⟩ := DataW.trod_int hu h
 exact ⟨n, rfl, by simpa [Lit.wf] using hw⟩
theorem opens_string {t : TypeId} (hu : P.underlying t = some .string) : Opens enc P t ekS (fun s => s.size ≤ maxLen) := fun W fuel cs r h => by
 obtain ⟨s, rfl, -, hs⟩ := DataW.trod_string hu h
 exact ⟨s, rfl, hs⟩
theorem cells_one {W : World} {base t : Nat} {v : Value} (h : Value.okWide P W .any base t v) (hn : (match P.underlying t with | some .bool | some (.int _) | some .string | some (.slice _) => true | _ => false) = true) : v.cells.toList = [v] := by
 have : ¬ ∃ cs, v = .agg cs := by
  rintro ⟨cs, rfl⟩
  unfold Value.okWide Cell.okWide Cell.ok at h
  revert h hn
  cases hu : P.underlying t with
  | none => simp
  | some d => cases d <;> simp
 cases v <;> first | rfl | exact absurd ⟨_, rfl⟩ this
/-- An argument that is a number. -/
theorem open_int {W : World} {base t : Nat} {k : IntKind} {v : Value} {d : DataW H} {ps : List MemPlace} (hu : P.underlying t = some (.int k)) (hv : Value.okWide P W .any base t v) (h : DataW.Trod enc P W 0 (fun _ => true) true t v d ps) : ∃ n, v = .int k n ∧ k.min ≤ n ∧ n ≤ k.max := by
 obtain ⟨f, h⟩ := h
 rw [cells_one hv (by rw [hu])] at h
 obtain ⟨n, hr, hB⟩ := opens_int hu _ _ _ _ h
 have hr : [v] = [.int k n] := hr
 cases hr
 exact ⟨n, rfl, hB⟩
theorem open_string {W : World} {base t : Nat} {v : Value} {d : DataW H} {ps : List MemPlace} (hu : P.underlying t = some .string) (hv : Value.okWide P W .any base t v) (h : DataW.Trod enc P W 0 (fun _ => true) true t v d ps) : ∃ s, v = .string s ∧ s.size ≤ maxLen := by
 obtain ⟨f, h⟩ := h
 rw [cells_one hv (by rw [hu])] at h
 obtain ⟨s, hr, hB⟩ := opens_string hu _ _ _ _ h
 have hr : [v] = [.string s] := hr
 cases hr
 exact ⟨s, rfl, hB⟩
/-- A law of which a contract is known that says 'true' shuts its row. -/
theorem shut_law {fn : Func} {s : ChangeSpec} {handsOn : Bool} {W W' : World} {args : Array Value} {ds gs : List (DataW H)} {before p : List MemPlace} {t : TypeId} {I : IH} {O : List Atom}
  (hW : DataW.Whole enc P fn.params.toList s.vars false W args.toList ds gs before)
  (hA : DataW.TrodAll enc P W 0 (fun _ => true) true fn.params.toList args.toList ds p) (hp : ∀ x ∈ p, x ∈ before)
  (hok : Ok W I O W') (hI : IH.le (IW W) I) (hv : s.vars = [])
  (hres : fn.resultTypes = #[t]) (ht : P.underlying t = some .bool)
  (hspec : (s.fn H (ds ++ gs)).results = [.lit (.bool true)]) (hargs : (s.fn H (ds ++ gs)).args = ds) (hvars : (s.fn H (ds ++ gs)).vars = [])
  (hl : laidOutB P = true) (hrd : ∀ t ∈ fn.params.toList, P.readableRec t = true ∧ t < P.types.size) :
  s.post enc P fn false true handsOn false W args (.bool true) W' := by
 have hb := below_of hok hI
 have hlt : ∀ x ∈ before, x.block < W.heap.size := fun x hx => by simpa using hW.lt x hx
 refine ⟨ds, gs, before, [], p, [], hW, ?_, ?_, ?_, hb.frame _, fun h => by cases h⟩
 ·rw [hspec, hres]
  exact ⟨[], [], ⟨1, by simp [DataW.trod, ht, Value.cells, Value.resultList]⟩, rfl, rfl⟩
 ·rw [hargs]
  have : ∀ (ts : List TypeId) (vs : List Value) (ds : List (DataW H)) (p : List MemPlace), (∀ t ∈ ts, P.readableRec t = true ∧ t < P.types.size) → (∀ x ∈ p, x ∈ before) → DataW.TrodAll enc P W 0 (fun _ => true) true ts vs ds p → DataW.TrodAll enc P W' 0 (fun b => decide (b < W.heap.size)) true ts vs ds p := by
   intro ts
   induction ts with
   | nil => intro vs ds p _ _ h; cases vs <;> cases ds <;> simp_all [DataW.TrodAll]
   | cons t ts ih =>
    intro vs ds p hr hp h
    cases vs <;> cases ds <;> try (simp [DataW.TrodAll] at h)
    rename_i v vs d ds
    obtain ⟨p1, h1, q, h2, rfl⟩ := h
    refine ⟨p1, q, RowKit.Below.trod hl (hr t (by simp)).1 (hr t (by simp)).2 h1 hb (fun x hx => hlt x (hp x (by simp [hx]))), ih _ _ _ (fun t ht => hr t (by simp [ht])) (fun x hx => hp x (by simp [hx])) h2, rfl⟩
  exact this _ _ _ _ hrd hp hA
 ·rw [hvars, hv]; rfl
end
end Go.Lf
