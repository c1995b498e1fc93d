/- The row: a law's inputs, opened as immutable lists, and the shutting of a law that returns true. -/
import Derived.Test.YtckhmgglgbnaaaaGreatDoorU5
import Derived.ProofKit
set_option linter.unusedVariables false
set_option linter.unusedSimpArgs false
namespace Go.Lf
open Go

/-- The memory that the call finds: all of it is immutable. -/
def IW (W : World) : IH := fun b => W.heap[b]?
theorem ok_start (W : World) : Ok W (IW W) [] W := ⟨rfl, rfl, rfl, fun _ _ h => h, by simp, List.Pairwise.nil, by simp⟩
theorem below_of {W W' : World} {I : IH} {O : List Atom} (h : Ok W I O W') (hI : IH.le (IW W) I) : RowKit.Below W.heap.size W W' := by
 refine ⟨h.os, h.tape, h.output, ?_, fun k hk => ?_⟩
 ·rcases Nat.eq_zero_or_pos W.heap.size with h0 | h0
  ·omega
  ·have : W.heap.size - 1 < W.heap.size := by omega
   have hx := h.imm _ _ (hI _ _ (Array.getElem?_eq_getElem this))
   have := (Array.getElem?_eq_some_iff.mp hx).1
   omega
 ·rw [h.imm _ _ (hI _ _ (Array.getElem?_eq_getElem hk)), Array.getElem?_eq_getElem hk]

theorem mapM_get {α β : Type} {f : α → Option β} : ∀ {l : List α} {ys : List β}, l.mapM f = some ys → ys.length = l.length ∧ ∀ (i : Nat) x, l[i]? = some x → ∃ y, f x = some y ∧ ys[i]? = some y
 | [], ys, h => by simp at h; subst h; simp
 | a :: l, ys, h => by
  rw [List.mapM_cons] at h
  cases ha : f a with
  | none => simp [ha] at h
  | some b =>
   cases hl : l.mapM f with
   | none => simp [ha, hl] at h
   | some zs =>
    simp [ha, hl] at h
    subst h
    obtain ⟨h1, h2⟩ := mapM_get hl
    refine ⟨by simp [h1], fun i x hx => ?_⟩
    cases i with
    | zero => simp at hx; subst hx; exact ⟨b, ha, rfl⟩
    | succ i => simp at hx; obtain ⟨y, hy, hz⟩ := h2 i x hx; exact ⟨y, hy, by simpa using hz⟩
theorem range_get {n i : Nat} (h : i < n) : (List.range n)[i]? = some i := by simp [h]

theorem list_of {α : Type} {p : Nat → α → Prop} : ∀ {n : Nat}, (∀ i, i < n → ∃ x, p i x) → ∃ xs : List α, xs.length = n ∧ ∀ i x, xs[i]? = some x → p i x
 | 0, _ => ⟨[], rfl, by simp⟩
 | n + 1, h => by
  obtain ⟨xs, hl, hx⟩ := list_of (n := n) fun i hi => h i (by omega)
  obtain ⟨y, hy⟩ := h n (by omega)
  refine ⟨xs ++ [y], by simp [hl], fun i x hi => ?_⟩
  rcases Nat.lt_trichotomy i n with hlt | rfl | hgt
  ·rw [List.getElem?_append_left (by omega)] at hi; exact hx i x hi
  ·rw [List.getElem?_append_right (by omega)] at hi
   simp [hl] at hi; subst hi; exact hy
  ·rw [List.getElem?_eq_none (by simp; omega)] at hi; cases hi

section
variable {H : Type} (enc : TypeId × Value → H) (P : Program)
/-- What is read as a type's value is an element. -/
def Opens {α : Type} (t : TypeId) (K : EK α) (B : α → Prop) : Prop :=
 ∀ (W : World) (fuel : Nat) (cs : List Value) (r : DataW H × List MemPlace), DataW.trod enc P W 0 (fun _ => true) true fuel t cs = some r → ∃ x, K.rel (IW W) x cs ∧ B x
variable {enc P}

theorem opens_string {t : TypeId} (hu : P.underlying t = some .string) : Opens enc P t ekS (fun s => s.size ≤ maxLen) := fun W fuel cs r h => by
 obtain ⟨s, rfl, -, hs⟩ := DataW.trod_string hu h
 exact ⟨s, rfl, hs⟩
/-- A struct's field. -/
theorem trod_field {W : World} {fuel t : Nat} {cs : List Value} {r : DataW H × List MemPlace} (h : DataW.trod enc P W 0 (fun _ => true) true fuel t cs = some r) {k off ft m : Nat} (hk : fdD P t k = some (off, ft, m)) :
  cs.length = P.cellsOf t ∧ ∃ fuel' r', DataW.trod enc P W 0 (fun _ => true) true fuel' ft ((cs.drop off).take m) = some r' := by
 obtain ⟨fs, f, j, hu, hf, ho, hft, hj, hsz⟩ := fd_field hk
 obtain ⟨xs, n, -, -, hc, hl, hx⟩ := DataW.trod_struct hu h
 have e := hx k f hf
 have hk' : k < xs.length := by rw [hl]; exact (Array.getElem?_eq_some_iff.mp hf).1
 refine ⟨hc, n, xs[k], ?_⟩
 rw [List.getElem?_eq_getElem hk'] at e
 have hm : P.cellsOf ft = m := by rw [← hft]; simp [Program.cellsOf, hj, hsz]
 rw [← e, ho, hft, hm]
theorem add_none (b off n : Nat) : (⟨b, off, none⟩ : Addr).add n = ⟨b, off + n, none⟩ := by
 unfold Addr.add
 split
 ·subst n; rfl
 ·rfl
theorem cells_get {W : World} {a : Addr} {n : Nat} {cs : List Value} (h : W.cells? 0 a n = some cs) (hn : 0 < n) : ∃ b off c e fr, a = ⟨b, off, none⟩ ∧ W.heap[b]? = some (.cells c e fr) ∧ cs = (c.toList.drop off).take n := by
 unfold World.cells? at h
 rw [if_pos (Nat.zero_le _)] at h
 obtain ⟨hl, hx⟩ := mapM_get h
 obtain ⟨y, hy, -⟩ := hx 0 0 (range_get hn)
 obtain ⟨b, off, sp⟩ := a
 have h0 : (⟨b, off, sp⟩ : Addr).add 0 = ⟨b, off, sp⟩ := rfl
 rw [h0] at hy
 unfold World.cell? at hy
 split at hy
 case h_2 => cases hy
 rename_i c e fr hb
 cases sp with
 | some z => simp at hy
 | none =>
  refine ⟨b, off, c, e, fr, rfl, hb, ?_⟩
  apply List.ext_getElem?
  intro i
  by_cases hi : i < n
  ·obtain ⟨z, hz, hz'⟩ := hx i i (range_get hi)
   rw [add_none] at hz
   unfold World.cell? at hz
   simp only [hb] at hz
   simp only [Option.isSome_none, Bool.false_eq_true, if_false] at hz
   rw [hz', List.getElem?_take_of_lt hi, List.getElem?_drop, ← hz]
   simp
  ·rw [List.getElem?_eq_none (by rw [hl]; simp; omega), List.getElem?_eq_none (by simp; omega)]
theorem opens_slice {α : Type} {K : EK α} {B : α → Prop} {t e : TypeId} (hel : elD P t = some (none, e, K.sz)) (ho : Opens enc P e K B) : Opens enc P t (ekL K) (fun xs => xs.length ≤ maxLen ∧ ∀ x ∈ xs, B x) := fun W fuel cs r h => by
 obtain ⟨it, hu, hi, hs⟩ := el_slice hel
 have hce : P.cellsOf e = K.sz := by simp [Program.cellsOf, hi, hs]
 rcases DataW.trod_slice hu h with ⟨rfl, -⟩ | ⟨a, len, cap, elems, rest, n, -, rfl, -, -, hlc, hcap, hlen, hx, -⟩
 ·exact ⟨[], ⟨_, rfl, RS.nil⟩, by simp, by simp⟩
 have hmax : maxLen ≤ 9223372036854775807 := by decide
 rcases Nat.eq_zero_or_pos len with h0 | h0
 ·subst h0
  exact ⟨[], ⟨_, rfl, ⟨by simp, hlc⟩, some a, cap, rfl, .inl rfl⟩, by simp, by simp⟩
 have hone : ∀ i, i < len → ∃ cs r, W.cells? 0 (a.add (i * K.sz)) K.sz = some cs ∧ DataW.trod enc P W 0 (fun _ => true) true n e cs = some r := by
  intro i hi
  have h1 := hx i hi
  rw [List.getElem?_eq_getElem (by omega), hce] at h1
  obtain ⟨cs, hc, hd⟩ := Option.bind_eq_some_iff.mp h1
  exact ⟨cs, _, hc, hd⟩
 obtain ⟨cs0, r0, hc0, -⟩ := hone 0 h0
 rw [Nat.zero_mul] at hc0
 obtain ⟨b, off, c, e', fr, rfl, hb, -⟩ := cells_get (a := a) hc0 K.pos
 have hall : ∀ i, i < len → ∃ x, K.rel (IW W) x ((c.toList.drop (off + i * K.sz)).take K.sz) ∧ B x := by
  intro i hi
  obtain ⟨cs, r, hc, hd⟩ := hone i hi
  rw [add_none] at hc
  obtain ⟨b1, off1, c1, e1, fr1, ha, hb1, rfl⟩ := cells_get hc K.pos
  cases ha
  rw [hb] at hb1
  cases hb1
  exact ho _ _ _ _ hd
 obtain ⟨xs, hxl, hxs⟩ := list_of hall
 refine ⟨xs, ⟨_, rfl, ⟨by omega, hlc⟩, some ⟨b, off, none⟩, cap, by rw [hxl], .inr ⟨b, off, c.toList, e', fr, rfl, by simpa [IW] using hb, fun i x hi => (hxs i x hi).1⟩⟩, by omega, fun x hm => ?_⟩
 obtain ⟨i, hi⟩ := List.mem_iff_getElem?.mp hm
 exact (hxs i x hi).2
theorem cells_one {W : World} {base t : Nat} {v : Value} (h : Value.okWide P W .any base t v) (hn : (match P.underlying t with | some .bool | some (.int _) | some .string | some (.slice _) => true | _ => false) = true) : v.cells.toList = [v] := by
 have : ¬ ∃ cs, v = .agg cs := by
  rintro ⟨cs, rfl⟩
  unfold Value.okWide Cell.okWide Cell.ok at h
  revert h hn
  cases hu : P.underlying t with
  | none => simp
  | some d => cases d <;> simp
 cases v <;> first | rfl | exact absurd ⟨_, rfl⟩ this
/-- An argument that is a slice. -/
theorem open_slice {α : Type} {K : EK α} {B : α → Prop} {W : World} {base t e : Nat} {v : Value} {d : DataW H} {ps : List MemPlace} (hel : elD P t = some (none, e, K.sz)) (ho : Opens enc P e K B) (hv : Value.okWide P W .any base t v)
  (hn : (match P.underlying t with | some .bool | some (.int _) | some .string | some (.slice _) => true | _ => false) = true) (h : DataW.Trod enc P W 0 (fun _ => true) true t v d ps) : ∃ xs, RS K (IW W) v xs ∧ xs.length ≤ maxLen ∧ ∀ x ∈ xs, B x := by
 obtain ⟨f, h⟩ := h
 rw [cells_one hv hn] at h
 obtain ⟨xs, ⟨v', hv', hR⟩, hB⟩ := opens_slice hel ho _ _ _ _ h
 cases hv'
 exact ⟨xs, hR, hB⟩
theorem open_string {W : World} {base t : Nat} {v : Value} {d : DataW H} {ps : List MemPlace} (hu : P.underlying t = some .string) (hv : Value.okWide P W .any base t v) (h : DataW.Trod enc P W 0 (fun _ => true) true t v d ps) : ∃ s, v = .string s ∧ s.size ≤ maxLen := by
 obtain ⟨f, h⟩ := h
 rw [cells_one hv (by rw [hu])] at h
 obtain ⟨s, hr, hB⟩ := opens_string hu _ _ _ _ h
 have hr : [v] = [.string s] := hr
 cases hr
 exact ⟨s, rfl, hB⟩
/-- A law of which a contract is known that says 'true' shuts its row. -/
theorem shut_law {fn : Func} {s : ChangeSpec} {handsOn : Bool} {W W' : World} {args : Array Value} {ds gs : List (DataW H)} {before p : List MemPlace} {t : TypeId} {I : IH} {O : List Atom}
  (hW : DataW.Whole enc P fn.params.toList s.vars false W args.toList ds gs before)
  (hA : DataW.TrodAll enc P W 0 (fun _ => true) true fn.params.toList args.toList ds p) (hp : ∀ x ∈ p, x ∈ before)
  (hok : Ok W I O W') (hI : IH.le (IW W) I) (hv : s.vars = [])
  (hres : fn.resultTypes = #[t]) (ht : P.underlying t = some .bool)
  (hspec : (s.fn H (ds ++ gs)).results = [.lit (.bool true)]) (hargs : (s.fn H (ds ++ gs)).args = ds) (hvars : (s.fn H (ds ++ gs)).vars = [])
  (hl : laidOutB P = true) (hrd : ∀ t ∈ fn.params.toList, P.readableRec t = true ∧ t < P.types.size) :
  s.post enc P fn false true handsOn false W args (.bool true) W' := by
 have hb := below_of hok hI
 have hlt : ∀ x ∈ before, x.block < W.heap.size := fun x hx => by simpa using hW.lt x hx
 refine ⟨ds, gs, before, [], p, [], hW, ?_, ?_, ?_, hb.frame _, fun h => by cases h⟩
 ·rw [hspec, hres]
  exact ⟨[], [], ⟨1, by simp [DataW.trod, ht, Value.cells, Value.resultList]⟩, rfl, rfl⟩
 ·rw [hargs]
  have : ∀ (ts : List TypeId) (vs : List Value) (ds : List (DataW H)) (p : List MemPlace), (∀ t ∈ ts, P.readableRec t = true ∧ t < P.types.size) → (∀ x ∈ p, x ∈ before) → DataW.TrodAll enc P W 0 (fun _ => true) true ts vs ds p → DataW.TrodAll enc P W' 0 (fun b => decide (b < W.heap.size)) true ts vs ds p := by
   intro ts
   induction ts with
   | nil => intro vs ds p _ _ h; cases vs <;> cases ds <;> simp_all [DataW.TrodAll]
   | cons t ts ih =>
    intro vs ds p hr hp h
    cases vs <;> cases ds <;> try (simp [DataW.TrodAll] at h)
    rename_i v vs d ds
    obtain ⟨p1, h1, q, h2, rfl⟩ := h
    refine ⟨p1, q, RowKit.Below.trod hl (hr t (by simp)).1 (hr t (by simp)).2 h1 hb (fun x hx => hlt x (hp x (by simp [hx]))), ih _ _ _ (fun t ht => hr t (by simp [ht])) (fun x hx => hp x (by simp [hx])) h2, rfl⟩
  exact this _ _ _ _ hrd hp hA
 ·rw [hvars, hv]; rfl
end
end Go.Lf
