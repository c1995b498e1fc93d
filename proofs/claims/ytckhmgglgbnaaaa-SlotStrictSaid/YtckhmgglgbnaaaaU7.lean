/- Structs held against each other. -/
import Derived.Test.YtckhmgglgbnaaaaU5
import Derived.Laws.StructEq
import Derived.ChangeKeysEq
set_option linter.unusedVariables false
set_option linter.unusedSimpArgs false
namespace Go.Lf
open Go
/-- of a struct that may be held against another: its fields' places and types. -/
def eqD (P : Program) (t : TypeId) : Option (List (Nat × TypeId)) :=
 (P.underlying t).bind fun d => match d with
  | .struct fs => if (fs.toList.all fun f => f.name != "_") && !P.stoodInHeld t && !P.eqGuardType P.depth t then some (fs.toList.map fun f => (f.offset, f.type)) else none
  | _ => none
section
variable {P : Program} (w : World)
def EqL (P : Program) (w : World) (d : Nat) (xs ys : Array Value) : List (Nat × TypeId) → Bool → Prop
 | [], r => r = true
 | (o, t) :: l, r => ∃ a b r1 r2, (part t xs o).run P w = .ok a w ∧ (part t ys o).run P w = .ok b w ∧ (Op.equalIn d t a b).run P w = .ok r1 w ∧ EqL P w d xs ys l r2 ∧ (r1 && r2) = r
variable {w}
theorem eq_fields {d : Nat} {xs ys : Array Value} : ∀ (fs : List Field) {r : Bool}, (fs.all fun f => f.name != "_") = true → EqL P w d xs ys (fs.map fun f => (f.offset, f.type)) r → (Op.eqFields d xs ys fs).run P w = .ok r w
 | [], r, _, h => by
  have h : r = true := h
  simp [Op.eqFields, h]
 | f :: fs, r, hn, h => by
  simp only [List.all_cons, Bool.and_eq_true, bne_iff_ne, ne_eq] at hn
  obtain ⟨a, b, r1, r2, pa, pb, he, hl, hr⟩ := h
  have ih := eq_fields fs (r := r2) (by simpa using hn.2) hl
  subst hr
  simp only [Op.eqFields, hn.1, ne_eq, not_false_eq_true, if_true, Sem.run_bind, pa, pb, he, Result.andThen_ok]
  cases r1
  ·simp
  ·simpa using ih
theorem eq_struct {d t : Nat} {l : List (Nat × TypeId)} {xs ys : Array Value} {r : Bool} (h : eqD P t = some l) (hl : EqL P w d xs ys l r) : (Op.equalIn (d + 1) t (.agg xs) (.agg ys)).run P w = .ok r w := by
 unfold eqD at h
 cases hu : P.underlying t with
 | none => simp [hu] at h
 | some k =>
  cases k <;> simp only [hu, Option.bind_some, reduceCtorEq] at h
  rename_i fs
  split at h
  case isFalse => cases h
  rename_i hc
  simp only [Bool.and_eq_true, Bool.not_eq_true'] at hc
  cases h
  have hf : P.fieldsOf t = fs := by simp [Program.fieldsOf, hu]
  rw [run_equalIn_struct w d t xs ys (by rw [hf, hu]) hc.1.2, hf]
  exact eq_fields _ hc.1.1 hl
theorem eqD_guard {t : Nat} {l : List (Nat × TypeId)} (h : eqD P t = some l) : P.eqGuardType P.depth t = false := by
 unfold eqD at h
 cases hu : P.underlying t with
 | none => simp [hu] at h
 | some k =>
  cases k <;> simp only [hu, Option.bind_some, reduceCtorEq] at h
  split at h
  case isFalse => cases h
  rename_i hc
  simp only [Bool.and_eq_true, Bool.not_eq_true'] at hc
  exact hc.2
theorem part_one {t o by_ sz : Nat} {z : List Value} {xs : Array Value} {v : Value} (ht : tyD P t = some (false, sz, by_, z)) (hx : xs[o]? = some v) : (part t xs o).run P w = .ok v w := by
 simp [part, ty_isAgg w ht, hx]
theorem part_agg {t o by_ sz : Nat} {z : List Value} {xs : Array Value} (ht : tyD P t = some (true, sz, by_, z)) : (part t xs o).run P w = .ok (.agg (xs.extract o (o + sz))) w := by
 simp [part, ty_isAgg w ht, ty_size w ht]
theorem eq_items {d e by_ : Nat} {z : List Value} {k : IntKind} (hk : P.underlying e = some (.int k)) (ht : tyD P e = some (false, 1, by_, z)) {xs ys : List Int} : ∀ (is : List Nat), (∀ i ∈ is, i < xs.length ∧ i < ys.length) →
  (Op.eqItems (d + 1) e 1 ⟨xs.map (.int k)⟩ ⟨ys.map (.int k)⟩ is).run P w = .ok (is.all fun i => xs[i]? == ys[i]?) w
 | [], _ => by simp [Op.eqItems]
 | i :: is, h => by
  have hi := h i (by simp)
  have e1 : (part e ⟨xs.map (Value.int k)⟩ (i * 1)).run P w = .ok (.int k xs[i]) w := part_one ht (by simp [hi.1])
  have e2 : (part e ⟨ys.map (Value.int k)⟩ (i * 1)).run P w = .ok (.int k ys[i]) w := part_one ht (by simp [hi.2])
  simp only [Op.eqItems, Sem.run_bind, e1, e2, run_equalIn_int w d e k k _ _ hk, Result.andThen_ok]
  have ih := eq_items (d := d) (xs := xs) (ys := ys) hk ht is (fun j hj => h j (by simp [hj]))
  simp only [List.all_cons, List.getElem?_eq_getElem hi.1, List.getElem?_eq_getElem hi.2, Option.some_beq_some]
  cases hb : (xs[i] == ys[i])
  ·simp
  ·simpa using ih
theorem eq_arr {d t e m by_ : Nat} {z : List Value} {k : IntKind} (hel : elD P t = some (some m, e, 1)) (hk : P.underlying e = some (.int k)) (ht : tyD P e = some (false, 1, by_, z)) {v u : Vector Int m} :
  (Op.equalIn (d + 2) t (.agg ⟨arrC k v⟩) (.agg ⟨arrC k u⟩)).run P w = .ok (decide (v = u)) w := by
 obtain ⟨it, hu, hi, hs⟩ := el_array hel
 have hc : P.cellsOf e = 1 := by simp [Program.cellsOf, hi, hs]
 rw [run_equalIn_array w (d + 1) _ _ hu hi, hc]
 have hv : arrC k v = v.toList.map (.int k) := rfl
 have huu : arrC k u = u.toList.map (.int k) := rfl
 rw [hv, huu, eq_items hk ht _ (fun i hi => by simpa using hi)]
 congr 1
 rw [Bool.eq_iff_iff, List.all_eq_true, decide_eq_true_iff]
 constructor
 ·intro h
  ext i hi
  have := h i (by simpa using hi)
  simpa [hi] using this
 ·rintro rfl i _
  simp
/-- An array that is a struct's last field. -/
theorem extract_tail {pre xs : List Value} {o n : Nat} (hp : pre.length = o) (hx : xs.length = n) : (⟨pre ++ xs⟩ : Array Value).extract o (o + n) = ⟨xs⟩ := by
 subst hp hx
 simp
theorem part_tail {t o by_ sz : Nat} {z pre xs : List Value} (ht : tyD P t = some (true, sz, by_, z)) (hp : pre.length = o) (hx : xs.length = sz) : (part t ⟨pre ++ xs⟩ o).run P w = .ok (.agg ⟨xs⟩) w := by
 rw [part_agg ht, extract_tail hp hx]
theorem tl_eq (x y : ByteArray) : (x.toList == y.toList) = decide (x = y) := by
 rw [Bool.eq_iff_iff, beq_iff_eq, decide_eq_true_iff, ByteArray.toList_eq, ByteArray.toList_eq]
 obtain ⟨⟨x⟩⟩ := x
 obtain ⟨⟨y⟩⟩ := y
 simp
variable {a : Act} {n : Nat} {L : List (Nat × Value)}
theorem r_neqS (hf : Fr n L a) {t t' : TypeId} {l : List (Nat × TypeId)} (h : eqD P t = some l) {X Y : Operand} {xs ys : List Value} {r : Bool} (hx : ev L X = some (.agg ⟨xs⟩)) (hy : ev L Y = some (.agg ⟨ys⟩)) (hl : EqL P w 9999 ⟨xs⟩ ⟨ys⟩ l r) {d : Nat} {ty : TypeId} {pos : String} {aft : Array Edge} {gd : Option (Nat × Bool)} :
  (execOp a.eval (⟨some d, .binOp .neq t X Y t', ty, pos, aft, gd⟩ : Oper)).run P w = .ok (.value (.bool (!r))) w := by
 simp [execOp, hf.ev hx, hf.ev hy, run_eqGuard_agg w .neq t X Y ⟨xs⟩ ⟨ys⟩ (eqD_guard h), run_neq_struct, eq_struct h hl]
end
end Go.Lf
