/- The operations of the code, one rule each: what stands in the slots and in memory behind an operation. -/
import Derived.Test.YtckhmgglgbnaaaaU0
import Derived.KernelRfl
set_option linter.unusedVariables false
set_option linter.unusedSimpArgs false
namespace Go.Lf
open Go

/-! ### What is told of types, in closed facts -/
def isAggD : Option TypeDesc → Bool
  | some (.struct _) => true
  | some (.array _ _) => true
  | _ => false
/-- is it a struct or an array? its cells; its bytes; its zero value's cells. -/
def tyD (P : Program) (t : TypeId) : Option (Bool × Nat × Nat × List Value) :=
  (P.underlying t).bind fun d => (P.info? t).bind fun i => i.zero.map fun z => (isAggD (some d), i.size, i.bytes, z.cells.toList)
/-- of a struct's field: where it begins, its type, its cells. -/
def fdD (P : Program) (s k : Nat) : Option (Nat × TypeId × Nat) :=
  (P.underlying s).bind fun d => match d with
    | .struct fs => (fs[k]?).bind fun f => (P.info? f.type).map fun i => (f.offset, f.type, i.size)
    | _ => none
/-- of a slice or an array: its length (an array's), its elements' type, their cells. -/
def elD (P : Program) (t : Nat) : Option (Option Nat × TypeId × Nat) :=
  (P.underlying t).bind fun d => match d with
    | .slice e => (P.info? e).map fun i => (none, e, i.size)
    | .array n e => (P.info? e).map fun i => (some n, e, i.size)
    | _ => none
/-- of a struct: its fields' places and sizes, its zero cells. -/
def bdD (P : Program) (t : Nat) : Option (List (Nat × Nat) × List Value) :=
  (P.underlying t).bind fun d => match d with
    | .struct fs => (P.info? t).bind fun it => it.zero.bind fun z => (fs.toList.mapM (fun f => (P.info? f.type).map fun i => (f.offset, i.size))).map fun ps => (ps, z.cells.toList)
    | _ => none

section types
variable {P : Program} (w : World)
theorem ty_isAgg {t sz by_ : Nat} {ag : Bool} {z : List Value} (h : tyD P t = some (ag, sz, by_, z)) : (isAgg t).run P w = .ok ag w := by
  unfold tyD at h
  cases hu : P.underlying t with
  | none => simp [hu] at h
  | some d =>
    cases hi : P.info? t with
    | none => simp [hu, hi] at h
    | some i =>
      cases hz : i.zero with
      | none => simp [hu, hi, hz] at h
      | some zz =>
        simp [hu, hi, hz] at h
        obtain ⟨h1, -⟩ := h
        simp only [isAgg, Sem.run_bind, run_underlying hu, Result.andThen_ok]
        rw [← h1]
        cases d <;> rfl
theorem ty_info {t sz by_ : Nat} {ag : Bool} {z : List Value} (h : tyD P t = some (ag, sz, by_, z)) : ∃ i zv, P.info? t = some i ∧ i.size = sz ∧ i.bytes = by_ ∧ i.zero = some zv ∧ zv.cells = ⟨z⟩ := by
  unfold tyD at h
  cases hu : P.underlying t with
  | none => simp [hu] at h
  | some d =>
    cases hi : P.info? t with
    | none => simp [hu, hi] at h
    | some i =>
      cases hz : i.zero with
      | none => simp [hu, hi, hz] at h
      | some zz =>
        simp [hu, hi, hz] at h
        obtain ⟨-, h1, h2, h3⟩ := h
        exact ⟨i, zz, rfl, h1, h2, hz, by rw [← h3]⟩
theorem ty_size {t sz by_ : Nat} {ag : Bool} {z : List Value} (h : tyD P t = some (ag, sz, by_, z)) : (sizeOf t).run P w = .ok sz w := by
  obtain ⟨i, zv, hi, hs, -⟩ := ty_info h
  simp [sizeOf, typeInfo, hi, hs]
theorem fd_field {s k off ft fs : Nat} (h : fdD P s k = some (off, ft, fs)) : ∃ fields f i, P.underlying s = some (.struct fields) ∧ fields[k]? = some f ∧ f.offset = off ∧ f.type = ft ∧ P.info? f.type = some i ∧ i.size = fs := by
  unfold fdD at h
  cases hu : P.underlying s with
  | none => simp [hu] at h
  | some d =>
    cases d <;> simp only [hu, Option.bind_some, reduceCtorEq] at h
    rename_i fields
    cases hf : fields[k]? with
    | none => simp [hf] at h
    | some f =>
      cases hi : P.info? f.type with
      | none => simp [hf, hi] at h
      | some i =>
        simp [hf, hi] at h
        exact ⟨fields, f, i, rfl, hf, h.1, h.2.1, hi, h.2.2⟩
theorem el_slice {t e es : Nat} (h : elD P t = some (none, e, es)) : ∃ i, P.underlying t = some (.slice e) ∧ P.info? e = some i ∧ i.size = es := by
  unfold elD at h
  cases hu : P.underlying t with
  | none => simp [hu] at h
  | some d =>
    cases d <;> simp only [hu, Option.bind_some, reduceCtorEq, Option.map_eq_some_iff] at h
    · obtain ⟨i, hi, he⟩ := h
      simp at he
      obtain ⟨he1, he2⟩ := he
      subst he1
      exact ⟨i, rfl, hi, he2⟩
    · obtain ⟨i, hi, he⟩ := h
      simp at he
theorem el_array {t e es n : Nat} (h : elD P t = some (some n, e, es)) : ∃ i, P.underlying t = some (.array n e) ∧ P.info? e = some i ∧ i.size = es := by
  unfold elD at h
  cases hu : P.underlying t with
  | none => simp [hu] at h
  | some d =>
    cases d <;> simp only [hu, Option.bind_some, reduceCtorEq, Option.map_eq_some_iff] at h
    · obtain ⟨i, hi, he⟩ := h
      simp at he
    · obtain ⟨i, hi, he⟩ := h
      simp at he
      obtain ⟨he1, he2, he3⟩ := he
      subst he1 he2
      exact ⟨i, rfl, hi, he3⟩
end types

/-! ### Memory -/
theorem add_lit (b off k : Nat) : (⟨b, off, none⟩ : Addr).add k = ⟨b, off + k, none⟩ := by unfold Addr.add; split <;> simp_all
theorem cell_blk {w : World} {b off : Nat} {cs : List Value} {e : TypeId} {fr : Nat × Nat} (h : w.heap[b]? = some (.cells ⟨cs⟩ e fr)) : w.cell? ⟨b, off, none⟩ = cs[off]? := by
  simp [World.cell?, h]
theorem run_load_blk {P : Program} {w : World} {t b off sz by_ : Nat} {z : List Value} {cs : List Value} {e : TypeId} {fr : Nat × Nat} {v : Value} (ht : tyD P t = some (false, sz, by_, z))
    (h : w.heap[b]? = some (.cells ⟨cs⟩ e fr)) (hc : cs[off]? = some v) : (loadVar t ⟨b, off, none⟩).run P w = .ok v w := by
  have h1 : w.cell? ⟨b, off, none⟩ = some v := by rw [cell_blk h]; exact hc
  simp [loadVar, ty_isAgg w ht, h1]
theorem run_load_blkA {P : Program} {w : World} {t b off sz by_ : Nat} {z : List Value} {cs vs : List Value} {e : TypeId} {fr : Nat × Nat} (ht : tyD P t = some (true, sz, by_, z))
    (h : w.heap[b]? = some (.cells ⟨cs⟩ e fr)) (hc : (cs.drop off).take sz = vs) (hl : vs.length = sz) : (loadVar t ⟨b, off, none⟩).run P w = .ok (.agg ⟨vs⟩) w := by
  have h1 := run_loadCells_list (P := P) w ⟨b, off, none⟩ vs (fun j v hj => by
    rw [add_lit, cell_blk h, ← hj, ← hc, List.getElem?_take, List.getElem?_drop]
    have : j < sz := by rw [← hl]; exact (List.getElem?_eq_some_iff.1 hj).1
    simp [this])
  rw [hl] at h1
  simp [loadVar, ty_isAgg w ht, ty_size w ht, h1]
theorem run_store_blk {P : Program} {w : World} {t b off sz by_ : Nat} {z : List Value} {cs : List Value} {ag : Bool} {e : TypeId} {v : Value} (ht : tyD P t = some (ag, sz, by_, z))
    (h : w.heap[b]? = some (.cells ⟨cs⟩ e (0, 0))) (vs : List Value) (hv : v.cells = ⟨vs⟩) (hvs : vs.length = sz) (h1 : ∀ u ∈ vs, u.oneCell' = true) (hfit : off + sz ≤ cs.length) :
    (storeVar t ⟨b, off, none⟩ v).run P w = .ok () (w.setRow b (cs.take off ++ vs ++ cs.drop (off + sz)).toArray) := by
  have := run_storeCells_at P b off e vs 0 ⟨cs⟩ w h (by simpa [hvs] using hfit) h1
  simp only [Nat.add_zero, hvs] at this
  simp [storeVar, ty_size w ht, hv, hvs, this]
theorem setRow_grown {w : World} {b : Nat} {cs : Array Value} : w.grownBy (w.setRow b cs) (some b) :=
  ⟨rfl, rfl, rfl, by simp, fun k _ hk => setRow_other w b k _ (fun e => hk (by rw [e]))⟩

/-! ### Rules -/
section rules
variable {P : Program} {ops : Array Oper} {Q : Exit → Act → World → Prop} {rest : List Oper} {a : Act} {w : World} {E : World} {I : IH} {O : List Atom} {n : Nat} {L : List (Nat × Value)}

theorem o_val {o : Oper} {d : Nat} {v : Value} {w' : World} (hg : o.guard = none) (hd : o.dst = some d) (hrun : (execOp a.eval o).run P w = .ok (.value v) w')
    (k : wpList P ops Q rest (a.put (some d) v) w') : wpList P ops Q (o :: rest) a w :=
  wpList_plain hg fun K hK => by
    unfold Oper.wp
    rw [hrun, Oper.upon_value, hd]
    exact hK _ _ k
theorem o_unit {o : Oper} {w' : World} (hg : o.guard = none) (hd : o.dst = none) (hrun : (execOp a.eval o).run P w = .ok .skip w')
    (k : wpList P ops Q rest a w') : wpList P ops Q (o :: rest) a w :=
  wpList_plain hg fun K hK => by
    unfold Oper.wp
    rw [hrun, Oper.upon_skip, hd]
    exact hK _ _ k
/-- An operation that yields a value and changes nothing. -/
abbrev Run (P : Program) (a : Act) (w : World) (o : Oper) (v : Value) : Prop := (execOp a.eval o).run P w = .ok (.value v) w
theorem o_run {op : Op} {ty : TypeId} {pos : String} {aft : Array Edge} {d : Nat} {v : Value} (hf : Fr n L a) (hr : Run P a w ⟨some d, op, ty, pos, aft, none⟩ v) (hd : Nat.blt d n = true) (k : ∀ a, Fr n ((d, v) :: L) a → wpList P ops Q rest a w) :
    wpList P ops Q (⟨some d, op, ty, pos, aft, none⟩ :: rest) a w := o_val rfl rfl hr (k _ (hf.put hd v))
theorem o_eff {op : Op} {ty : TypeId} {pos : String} {aft : Array Edge} {d : Nat} {v : Value} {w' : World} (hf : Fr n L a) (hr : (execOp a.eval (⟨some d, op, ty, pos, aft, none⟩ : Oper)).run P w = .ok (.value v) w') (hd : Nat.blt d n = true) (k : ∀ a, Fr n ((d, v) :: L) a → wpList P ops Q rest a w') :
    wpList P ops Q (⟨some d, op, ty, pos, aft, none⟩ :: rest) a w := o_val rfl rfl hr (k _ (hf.put hd v))
theorem o_effU {op : Op} {ty : TypeId} {pos : String} {aft : Array Edge} {w' : World} (hr : (execOp a.eval (⟨none, op, ty, pos, aft, none⟩ : Oper)).run P w = .ok .skip w') (k : wpList P ops Q rest a w') :
    wpList P ops Q (⟨none, op, ty, pos, aft, none⟩ :: rest) a w := o_unit rfl rfl hr k
theorem o_nil (h : Q .normal a w) : wpList P ops Q [] a w := h

variable {ty : TypeId} {pos : String} {aft : Array Edge} {d : Nat} {gd : Option (Nat × Bool)}

theorem r_move (hf : Fr n L a) {x : Operand} {v : Value} (hx : ev L x = some v) :
    (execOp a.eval (⟨some d, .move x, ty, pos, aft, gd⟩ : Oper)).run P w = .ok (.value (v)) w :=
  (by simp [execOp, hf.ev hx])
theorem r_assign (hf : Fr n L a) {x : Operand} {v : Value} (hx : ev L x = some v) :
    (execOp a.eval (⟨some d, .assign x, ty, pos, aft, gd⟩ : Oper)).run P w = .ok (.value (v)) w :=
  (by simp [execOp, hf.ev hx])
theorem scc {α : Type} {a : α} {x y : List α} (h : x.Sublist y) : (a :: x).Sublist (a :: y) := List.Sublist.cons_cons a h
theorem sc {α : Type} {a : α} {x y : List α} (h : x.Sublist y) : x.Sublist (a :: y) := List.Sublist.cons a h
theorem sr {α : Type} {x : List α} : x.Sublist x := List.Sublist.refl x
/-- Short words for what is said most: a copy; a copy into a variable. -/
theorem om {x : Operand} {v : Value} (hf : Fr n L a) (hx : ev L x = some v) (hd : Nat.blt d n = true) (k : ∀ a, Fr n ((d, v) :: L) a → wpList P ops Q rest a w) : wpList P ops Q (⟨some d, .move x, ty, pos, aft, none⟩ :: rest) a w := o_run hf (r_move hf hx) hd k
theorem oa {x : Operand} {v : Value} (hf : Fr n L a) (hx : ev L x = some v) (hd : Nat.blt d n = true) (k : ∀ a, Fr n ((d, v) :: L) a → wpList P ops Q rest a w) : wpList P ops Q (⟨some d, .assign x, ty, pos, aft, none⟩ :: rest) a w := o_run hf (r_assign hf hx) hd k
theorem r_pickT (hf : Fr n L a) {c x y : Operand} {v : Value} (hc : ev L c = some (.bool true)) (hx : ev L x = some v) :
    (execOp a.eval (⟨some d, .pick c x y, ty, pos, aft, gd⟩ : Oper)).run P w = .ok (.value (v)) w :=
  (by simp [execOp, hf.ev hc, hf.ev hx, asBool])
theorem r_pickF (hf : Fr n L a) {c x y : Operand} {v : Value} (hc : ev L c = some (.bool false)) (hx : ev L y = some v) :
    (execOp a.eval (⟨some d, .pick c x y, ty, pos, aft, gd⟩ : Oper)).run P w = .ok (.value (v)) w :=
  (by simp [execOp, hf.ev hc, hf.ev hx, asBool])

/-- A new block. -/
theorem blk_new (hw : Ok E I O w) (o : Obj) : Ok E I (.blk w.heap.size o :: O) { w with heap := w.heap.push o } :=
  hw.new (World.grownBy_alloc w o none) (heap_alloc_new w o) (fun b hb => by have : w.heap.size = b := by simpa [Atom.foot] using hb
                                                                             omega)
theorem e_box (hw : Ok E I O w) (hf : Fr n L a) {e : TypeId} {x : Operand} {v : Value} (hx : ev L x = some v) {cs : List Value} (hv : v.cells = ⟨cs⟩) :
    ∃ b w', (∀ (d : Nat) (ty : TypeId) (pos : String) (aft : Array Edge) (gd : Option (Nat × Bool)), (execOp a.eval (⟨some d, .box e x, ty, pos, aft, gd⟩ : Oper)).run P w = .ok (.value (.pointer (some ⟨b, 0, none⟩))) w') ∧ Ok E I (.blk b (.cells ⟨cs⟩ e (0, 0)) :: O) w' :=
  ⟨w.heap.size, { w with heap := w.heap.push (.cells ⟨cs⟩ e) }, fun _ _ _ _ _ => by simp [execOp, Instr.box, newVar, newRow, hf.ev hx, hv], blk_new hw _⟩
theorem e_alloc (hw : Ok E I O w) {e : TypeId} {sz by_ : Nat} {ag : Bool} {z : List Value} (ht : tyD P e = some (ag, sz, by_, z)) :
    ∃ b w', (∀ (d : Nat) (ty : TypeId) (pos : String) (aft : Array Edge) (gd : Option (Nat × Bool)), (execOp a.eval (⟨some d, .alloc e, ty, pos, aft, gd⟩ : Oper)).run P w = .ok (.value (.pointer (some ⟨b, 0, none⟩))) w') ∧ Ok E I (.blk b (.cells ⟨z⟩ e (0, 0)) :: O) w' := by
  obtain ⟨i, zv, hi, hs, hb, hz, hc⟩ := ty_info ht
  exact ⟨w.heap.size, { w with heap := w.heap.push (.cells ⟨z⟩ e) }, fun _ _ _ _ _ => by simp [execOp, Instr.alloc, zeroValue, typeInfo, hi, hz, newVar, newRow, hc], blk_new hw _⟩
theorem r_fieldAddr (hf : Fr n L a) {s fk : Nat} {x : Operand} {b off : Nat} (hx : ev L x = some (.pointer (some ⟨b, off, none⟩))) {fo ft fs : Nat} (ht : fdD P s fk = some (fo, ft, fs + 1)) :
    (execOp a.eval (⟨some d, .fieldAddr s x fk, ty, pos, aft, gd⟩ : Oper)).run P w = .ok (.value (.pointer (some ⟨b, off + fo, none⟩))) w := by
  obtain ⟨fields, f, i, hu, hfk, ho, hft, hi, his⟩ := fd_field ht
  exact (by simp [execOp, Instr.fieldAt, run_underlying hu, hfk, hf.ev hx, Instr.sureAddr, fieldPlace, sizeOf, typeInfo, hi, his, add_lit, ho])
theorem own_blk (hw : Ok E I O w) {i b : Nat} {o : Obj} (hi : O[i]? = some (.blk b o)) : w.heap[b]? = some o := hw.own _ (List.mem_of_getElem? hi)
theorem r_load (hw : Ok E I O w) (hf : Fr n L a) {t : TypeId} {x : Operand} {b off : Nat} (hx : ev L x = some (.pointer (some ⟨b, off, none⟩))) {sz by_ : Nat} {z : List Value} (ht : tyD P t = some (false, sz, by_, z))
    (i : Nat) {cs : List Value} {e : TypeId} {fr : Nat × Nat} (hO : O[i]? = some (.blk b (.cells ⟨cs⟩ e fr))) {v : Value} (hc : cs[off]? = some v) :
    (execOp a.eval (⟨some d, .load t x, ty, pos, aft, gd⟩ : Oper)).run P w = .ok (.value (v)) w :=
  (by simp [execOp, Instr.loadAt, hf.ev hx, Instr.sureAddr, run_load_blk ht (own_blk hw hO) hc])
theorem r_loadA (hw : Ok E I O w) (hf : Fr n L a) {t : TypeId} {x : Operand} {b off : Nat} (hx : ev L x = some (.pointer (some ⟨b, off, none⟩))) {sz by_ : Nat} {z : List Value} (ht : tyD P t = some (true, sz, by_, z))
    (i : Nat) {cs vs : List Value} {e : TypeId} {fr : Nat × Nat} (hO : O[i]? = some (.blk b (.cells ⟨cs⟩ e fr))) (hc : (cs.drop off).take sz = vs) (hl : vs.length = sz) :
    (execOp a.eval (⟨some d, .load t x, ty, pos, aft, gd⟩ : Oper)).run P w = .ok (.value (.agg ⟨vs⟩)) w :=
  (by simp [execOp, Instr.loadAt, hf.ev hx, Instr.sureAddr, run_load_blkA ht (own_blk hw hO) hc hl])
/-- A store of any value into an owned block. -/
theorem e_store (hw : Ok E I O w) (hf : Fr n L a) {t : TypeId} {x y : Operand} {b off : Nat} (hx : ev L x = some (.pointer (some ⟨b, off, none⟩))) {v : Value} (hy : ev L y = some v) {sz by_ : Nat} {ag : Bool} {z : List Value} (ht : tyD P t = some (ag, sz, by_, z))
    (i : Nat) {cs : List Value} {e : TypeId} (hO : O[i]? = some (.blk b (.cells ⟨cs⟩ e (0, 0)))) {vs : List Value} (hv : v.cells = ⟨vs⟩) (hvs : vs.length = sz) (h1 : ∀ u ∈ vs, u.oneCell' = true) (hfit : off + sz ≤ cs.length)
    {cs' : List Value} (hcs : cs.take off ++ vs ++ cs.drop (off + sz) = cs') :
    ∃ w', (∀ (ty : TypeId) (pos : String) (aft : Array Edge) (gd : Option (Nat × Bool)), (execOp a.eval (⟨none, .store t x y, ty, pos, aft, gd⟩ : Oper)).run P w = .ok .skip w') ∧ Ok E I (O.set i (.blk b (.cells ⟨cs'⟩ e (0, 0)))) w' := by
  refine ⟨w.setRow b (cs.take off ++ vs ++ cs.drop (off + sz)).toArray, ?_, ?_⟩
  · intro _ _ _ _
    simp only [execOp, Instr.storeAt, hf.ev hx, hf.ev hy, Instr.sureAddr, Sem.run_bind, Sem.run_pure, Result.andThen_ok, run_store_blk ht (own_blk hw hO) vs hv hvs h1 hfit]
  · rw [hcs]
    exact hw.step hO setRow_grown (setRow_heap w b _ _ e _ (own_blk hw hO)) (fun c hc => .inl hc)
theorem r_nilCheck (hf : Fr n L a) {x : Operand} {p : Addr} (hx : ev L x = some (.pointer (some p))) :
    (execOp a.eval (⟨some d, .nilCheck x, ty, pos, aft, gd⟩ : Oper)).run P w = .ok (.value (.pointer (some p))) w :=
  (by simp [execOp, hf.ev hx])
/-! Numbers -/
theorem guard_int (op : BinOp) (t : TypeId) (x y : Operand) (k k' : IntKind) (m q : Int) (w : World) : (eqGuard op t x y (.int k m) (.int k' q)).run P w = .ok () w := by
  unfold eqGuard; cases op <;> simp
theorem r_arith (hf : Fr n L a) {op : BinOp} {t t' : TypeId} {x y : Operand} {ik : IntKind} {X Y r : Int} (hx : ev L x = some (.int ik X)) (hy : ev L y = some (.int ik Y))
    (hr : (op = .add ∧ r = ik.wrap (X + Y)) ∨ (op = .sub ∧ r = ik.wrap (X - Y)) ∨ (op = .mul ∧ r = ik.wrap (X * Y))) :
    (execOp a.eval (⟨some d, .binOp op t x y t', ty, pos, aft, gd⟩ : Oper)).run P w = .ok (.value (.int ik r)) w := by
  simp only [execOp, hf.ev hx, hf.ev hy, Sem.run_bind, guard_int, Result.andThen_ok]
  rcases hr with ⟨rfl, rfl⟩ | ⟨rfl, rfl⟩ | ⟨rfl, rfl⟩ <;> simp [binOp, Op.intArith]
theorem r_add (hf : Fr n L a) {t t' : TypeId} {x y : Operand} {ik : IntKind} {X Y : Int} (hx : ev L x = some (.int ik X)) (hy : ev L y = some (.int ik Y)) :
    (execOp a.eval (⟨some d, .binOp .add t x y t', ty, pos, aft, gd⟩ : Oper)).run P w = .ok (.value (.int ik (ik.wrap (X + Y)))) w := r_arith hf hx hy (.inl ⟨rfl, rfl⟩)
theorem r_sub (hf : Fr n L a) {t t' : TypeId} {x y : Operand} {ik : IntKind} {X Y : Int} (hx : ev L x = some (.int ik X)) (hy : ev L y = some (.int ik Y)) :
    (execOp a.eval (⟨some d, .binOp .sub t x y t', ty, pos, aft, gd⟩ : Oper)).run P w = .ok (.value (.int ik (ik.wrap (X - Y)))) w := r_arith hf hx hy (.inr (.inl ⟨rfl, rfl⟩))
theorem r_mul (hf : Fr n L a) {t t' : TypeId} {x y : Operand} {ik : IntKind} {X Y : Int} (hx : ev L x = some (.int ik X)) (hy : ev L y = some (.int ik Y)) :
    (execOp a.eval (⟨some d, .binOp .mul t x y t', ty, pos, aft, gd⟩ : Oper)).run P w = .ok (.value (.int ik (ik.wrap (X * Y)))) w := r_arith hf hx hy (.inr (.inr ⟨rfl, rfl⟩))
theorem r_quo (hf : Fr n L a) {t t' : TypeId} {x y : Operand} {ik : IntKind} {X Y : Int} (hx : ev L x = some (.int ik X)) (hy : ev L y = some (.int ik Y)) (h0 : Y ≠ 0) :
    (execOp a.eval (⟨some d, .binOp .quo t x y t', ty, pos, aft, gd⟩ : Oper)).run P w = .ok (.value (.int ik (ik.wrap (X.tdiv Y)))) w := by
  simp [execOp, hf.ev hx, hf.ev hy, guard_int, binOp, Op.intDiv, h0]
theorem r_rem (hf : Fr n L a) {t t' : TypeId} {x y : Operand} {ik : IntKind} {X Y : Int} (hx : ev L x = some (.int ik X)) (hy : ev L y = some (.int ik Y)) (h0 : Y ≠ 0) :
    (execOp a.eval (⟨some d, .binOp .rem t x y t', ty, pos, aft, gd⟩ : Oper)).run P w = .ok (.value (.int ik (X.tmod Y))) w := by
  simp [execOp, hf.ev hx, hf.ev hy, guard_int, binOp, Op.intDiv, h0]
def band (k : IntKind) (x y : Int) : Int := k.wrap (BitVec.ofInt k.bits x &&& BitVec.ofInt k.bits y).toNat
def bor (k : IntKind) (x y : Int) : Int := k.wrap (BitVec.ofInt k.bits x ||| BitVec.ofInt k.bits y).toNat
def bxor (k : IntKind) (x y : Int) : Int := k.wrap (BitVec.ofInt k.bits x ^^^ BitVec.ofInt k.bits y).toNat
def shl (k : IntKind) (x y : Int) : Int := k.wrap (x * 2 ^ min y.toNat k.bits)
def shr (k : IntKind) (x y : Int) : Int := x.fdiv (2 ^ min y.toNat k.bits)
theorem r_and (hf : Fr n L a) {t t' : TypeId} {x y : Operand} {ik : IntKind} {X Y : Int} (hx : ev L x = some (.int ik X)) (hy : ev L y = some (.int ik Y)) :
    (execOp a.eval (⟨some d, .binOp .and t x y t', ty, pos, aft, gd⟩ : Oper)).run P w = .ok (.value (.int ik (band ik X Y))) w := by
  simp [execOp, hf.ev hx, hf.ev hy, guard_int, binOp, Op.intBits, band]
theorem r_or (hf : Fr n L a) {t t' : TypeId} {x y : Operand} {ik : IntKind} {X Y : Int} (hx : ev L x = some (.int ik X)) (hy : ev L y = some (.int ik Y)) :
    (execOp a.eval (⟨some d, .binOp .or t x y t', ty, pos, aft, gd⟩ : Oper)).run P w = .ok (.value (.int ik (bor ik X Y))) w := by
  simp [execOp, hf.ev hx, hf.ev hy, guard_int, binOp, Op.intBits, bor]
theorem r_shl (hf : Fr n L a) {t t' : TypeId} {x y : Operand} {ik yk : IntKind} {X Y : Int} (hx : ev L x = some (.int ik X)) (hy : ev L y = some (.int yk Y)) (h0 : 0 ≤ Y) :
    (execOp a.eval (⟨some d, .binOp .shl t x y t', ty, pos, aft, gd⟩ : Oper)).run P w = .ok (.value (.int ik (shl ik X Y))) w := by
  simp [execOp, hf.ev hx, hf.ev hy, guard_int, binOp, Op.shift, shl, show ¬ Y < 0 by omega]
theorem r_shr (hf : Fr n L a) {t t' : TypeId} {x y : Operand} {ik yk : IntKind} {X Y : Int} (hx : ev L x = some (.int ik X)) (hy : ev L y = some (.int yk Y)) (h0 : 0 ≤ Y) :
    (execOp a.eval (⟨some d, .binOp .shr t x y t', ty, pos, aft, gd⟩ : Oper)).run P w = .ok (.value (.int ik (shr ik X Y))) w := by
  simp [execOp, hf.ev hx, hf.ev hy, guard_int, binOp, Op.shift, shr, show ¬ Y < 0 by omega]
/-- comparisons of whole numbers -/
def icmp : BinOp → Int → Int → Option Bool
  | .eql, x, y => some (x == y) | .neq, x, y => some (x != y) | .lss, x, y => some (decide (x < y)) | .leq, x, y => some (decide (x ≤ y)) | .gtr, x, y => some (decide (x > y)) | .geq, x, y => some (decide (x ≥ y)) | _, _, _ => none
theorem r_icmp (hf : Fr n L a) {op : BinOp} {t t' : TypeId} {x y : Operand} {ik : IntKind} {X Y : Int} {r : Bool} (hx : ev L x = some (.int ik X)) (hy : ev L y = some (.int ik Y)) (hr : icmp op X Y = some r) :
    (execOp a.eval (⟨some d, .binOp op t x y t', ty, pos, aft, gd⟩ : Oper)).run P w = .ok (.value (.bool r)) w := by
  simp only [execOp, hf.ev hx, hf.ev hy, Sem.run_bind, guard_int, Result.andThen_ok]
  cases op <;> simp only [icmp, Option.some.injEq, reduceCtorEq] at hr <;> subst hr <;> simp [binOp, Op.intCmp]
/-- '==', '!=' of bools -/
theorem run_eq_bool {t : TypeId} (ht : P.underlying t = some .bool) (x y : Bool) (w : World) : (Op.equal t (.bool x) (.bool y)).run P w = .ok (x == y) w := by
  have h : ∀ m, (Op.equalIn (m + 1) t (.bool x) (.bool y)).run P w = .ok (x == y) w := by
    intro m
    simp [Op.equalIn, run_underlying ht]
  exact h 9999
theorem r_bne (hf : Fr n L a) {t t' : TypeId} {x y : Operand} {X Y : Bool} (ht : P.underlying t = some .bool) (hx : ev L x = some (.bool X)) (hy : ev L y = some (.bool Y)) :
    (execOp a.eval (⟨some d, .binOp .neq t x y t', ty, pos, aft, gd⟩ : Oper)).run P w = .ok (.value (.bool (!(X == Y)))) w := by
  simp [execOp, hf.ev hx, hf.ev hy, eqGuard, binOp, run_eq_bool ht]
/-- strings -/
def seq_ (x y : ByteArray) : Bool := x.toList == y.toList
def slt (x y : ByteArray) : Bool := Op.bytesLess x.toList y.toList
def scmp : BinOp → ByteArray → ByteArray → Option Bool
  | .eql, x, y => some (seq_ x y) | .neq, x, y => some (!seq_ x y) | .lss, x, y => some (slt x y) | .leq, x, y => some (slt x y || seq_ x y) | .gtr, x, y => some (!(slt x y || seq_ x y)) | .geq, x, y => some (!slt x y) | _, _, _ => none
theorem guard_str (op : BinOp) (t : TypeId) (x y : Operand) (m q : ByteArray) (w : World) : (eqGuard op t x y (.string m) (.string q)).run P w = .ok () w := by
  unfold eqGuard; cases op <;> simp
theorem r_scmp (hf : Fr n L a) {op : BinOp} {t t' : TypeId} {x y : Operand} {X Y : ByteArray} {r : Bool} (hx : ev L x = some (.string X)) (hy : ev L y = some (.string Y)) (hr : scmp op X Y = some r) :
    (execOp a.eval (⟨some d, .binOp op t x y t', ty, pos, aft, gd⟩ : Oper)).run P w = .ok (.value (.bool r)) w := by
  simp only [execOp, hf.ev hx, hf.ev hy, Sem.run_bind, guard_str, Result.andThen_ok]
  cases op <;> simp only [scmp, Option.some.injEq, reduceCtorEq] at hr <;> subst hr <;> simp [binOp, Op.stringOp, seq_, slt]
theorem r_sadd (hf : Fr n L a) {t t' : TypeId} {x y : Operand} {X Y : ByteArray} (hx : ev L x = some (.string X)) (hy : ev L y = some (.string Y)) (hs : X.size + Y.size ≤ 9223372036854775807) :
    (execOp a.eval (⟨some d, .binOp .add t x y t', ty, pos, aft, gd⟩ : Oper)).run P w = .ok (.value (.string (X ++ Y))) w := by
  have : ¬ (((X.size + Y.size : Nat) : Int) > IntKind.i64.max) := by
    have : IntKind.i64.max = 9223372036854775807 := by rfl
    omega
  simp only [execOp, hf.ev hx, hf.ev hy, Sem.run_bind, guard_str, Result.andThen_ok, binOp, Op.stringOp, if_neg this, Sem.run_pure]
theorem r_not (hf : Fr n L a) {t : TypeId} {x : Operand} {X : Bool} (hx : ev L x = some (.bool X)) :
    (execOp a.eval (⟨some d, .unOp .not t x, ty, pos, aft, gd⟩ : Oper)).run P w = .ok (.value (.bool (!X))) w :=
  (by simp [execOp, hf.ev hx, Op.unary])
theorem r_neg (hf : Fr n L a) {t : TypeId} {x : Operand} {ik : IntKind} {X : Int} (hx : ev L x = some (.int ik X)) :
    (execOp a.eval (⟨some d, .unOp .neg t x, ty, pos, aft, gd⟩ : Oper)).run P w = .ok (.value (.int ik (ik.wrap (0 - X)))) w :=
  (by simp [execOp, hf.ev hx, Op.unary, Op.intArith])
theorem r_convI (hf : Fr n L a) {s t : TypeId} {x : Operand} {ik jk : IntKind} {X : Int} {ds : TypeDesc} (hs : P.underlying s = some ds) (ht : P.underlying t = some (.int jk)) (hx : ev L x = some (.int ik X)) :
    (execOp a.eval (⟨some d, .convert s t x, ty, pos, aft, gd⟩ : Oper)).run P w = .ok (.value (.int jk (jk.wrap X))) w :=
  (by simp [execOp, hf.ev hx, convert, run_underlying hs, run_underlying ht, Conv.intToInt])
theorem r_min (hf : Fr n L a) {x y : Operand} {t : Array TypeId} {ik : IntKind} {X Y : Int} (hx : ev L x = some (.int ik X)) (hy : ev L y = some (.int ik Y)) :
    (execOp a.eval (⟨some d, .call { callee := .builtin .min, args := #[x, y], argTypes := t }, ty, pos, aft, gd⟩ : Oper)).run P w = .ok (.value (.int ik (if Y < X then Y else X))) w :=
  (by simp [execOp, resolve, invoke, builtin, hf.ev hx, hf.ev hy, Builtin.min_, Builtin.min2])
theorem r_lenS (hf : Fr n L a) {x : Operand} {t : TypeId} {s : ByteArray} (ht : P.underlying t = some .string) (hx : ev L x = some (.string s)) :
    (execOp a.eval (⟨some d, .call { callee := .builtin .len, args := #[x], argTypes := #[t] }, ty, pos, aft, gd⟩ : Oper)).run P w = .ok (.value (.int .i64 s.size)) w :=
  (by simp [execOp, resolve, invoke, builtin, hf.ev hx, Builtin.len_, run_underlying ht, goInt])
def bt (s : ByteArray) (i : Int) : Int := (s.data.toList.getD i.toNat 0).toNat
theorem r_indexS (hf : Fr n L a) {x y : Operand} {t : TypeId} {s : ByteArray} {ik : IntKind} {i : Int} (ht : P.underlying t = some .string) (hx : ev L x = some (.string s)) (hy : ev L y = some (.int ik i)) (hi : 0 ≤ i ∧ i < s.size) :
    (execOp a.eval (⟨some d, .index t x y, ty, pos, aft, gd⟩ : Oper)).run P w = .ok (.value (.int .u8 (bt s i))) w := by
  have h1 : i.toNat < s.size := by omega
  have h2 : s[i.toNat]? = some (s[i.toNat]'h1) := by simp [h1]
  have h3 : ((s[i.toNat]'h1).toNat : Int) = bt s i := by
    unfold bt
    have h4 : i.toNat < s.data.toList.length := by simpa using h1
    rw [List.getD_eq_getElem?_getD, List.getElem?_eq_getElem h4]
    rfl
  simp [execOp, Instr.index, asIntOf, run_underlying ht, hf.ev hx, hf.ev hy, hi.1, h2, h3]
theorem r_field (hf : Fr n L a) {t fk : Nat} {x : Operand} {cs : List Value} (hx : ev L x = some (.agg ⟨cs⟩)) {fo ft fs : Nat} (ht : fdD P t fk = some (fo, ft, fs)) {sz by_ : Nat} {z : List Value} (htt : tyD P ft = some (false, sz, by_, z))
    {v : Value} (hc : cs[fo]? = some v) :
    (execOp a.eval (⟨some d, .field t x fk, ty, pos, aft, gd⟩ : Oper)).run P w = .ok (.value (v)) w := by
  obtain ⟨fields, f, i, hu, hfk, ho, hft, hi, his⟩ := fd_field ht
  subst ho
  simp [execOp, Instr.field, run_underlying hu, hfk, hf.ev hx, asAgg, part, hft, ty_isAgg w htt, hc]
theorem r_extract (hf : Fr n L a) {x : Operand} {vs : List Value} {j : Nat} {v : Value} (hx : ev L x = some (.tuple ⟨vs⟩)) (hj : vs[j]? = some v) :
    (execOp a.eval (⟨some d, .extract x j, ty, pos, aft, gd⟩ : Oper)).run P w = .ok (.value (v)) w :=
  (by simp [execOp, Instr.extract, hf.ev hx, hj])
theorem r_makeFunc (hf : Fr n L a) {f : FuncId} {caps : Array Operand} {vs : List Value} (hc : caps.toList.map (ev L) = vs.map some) :
    (execOp a.eval (⟨some d, .makeFunc (.func f) #[] caps, ty, pos, aft, gd⟩ : Oper)).run P w = .ok (.value (.func (.func f) #[] ⟨vs⟩)) w := by
  have : caps.map a.eval = ⟨vs⟩ := by
    apply Array.ext'
    simp only [Array.toList_map]
    have : ∀ (l : List Operand) (vs : List Value), l.map (ev L) = vs.map some → l.map a.eval = vs := by
      intro l
      induction l with
      | nil => intro vs h; cases vs <;> simp_all
      | cons x l ih =>
        intro vs h
        cases vs with
        | nil => simp at h
        | cons v vs =>
          simp at h
          simp [hf.ev h.1, ih vs h.2]
    exact this _ _ hc
  exact (by simp [execOp, Instr.makeFunc, this])

/-! Calls -/
structure Callable (P : Program) (f : FuncId) : Prop where
  it : ∃ fn, P.funcs[f]? = some fn ∧ (fn.name == "runtime.NumGoroutine") = false ∧ fn.body.isNone = false
theorem run_callFunc {f : FuncId} (h : Callable P f) (args : Array Value) (w : World) : (callFunc f args).run P w = .ok (.enter f args) w := by
  obtain ⟨fn, h1, h2, h3⟩ := h.it
  simp only [callFunc, Sem.run_bind, run_program, Result.andThen_ok, h1, h2, h3]
  rfl
def evs (L : List (Nat × Value)) : List Operand → Option (List Value)
  | [] => some []
  | x :: r => (ev L x).bind fun v => (evs L r).map (v :: ·)
theorem Fr.evs (hf : Fr n L a) : ∀ {l : List Operand} {vs : List Value}, Lf.evs L l = some vs → l.map a.eval = vs
  | [], vs, h => by simp [Lf.evs] at h; simp [← h]
  | x :: r, vs, h => by
    simp only [Lf.evs, Option.bind_eq_some_iff, Option.map_eq_some_iff] at h
    obtain ⟨v, hv, us, hu, rfl⟩ := h
    simp [hf.ev hv, Fr.evs hf hu]
theorem o_enter {o : Oper} {f : FuncId} {args : Array Value} (hg : o.guard = none) (hd : o.dst = some d) (hrun : (execOp a.eval o).run P w = .ok (.enter f args) w) (hf : Fr n L a) (hdn : Nat.blt d n = true)
    {K : Value → World → Prop} (hc : Calls P f args w fun e w' => ∃ v, e = .returned v ∧ K v w') (k : ∀ v w a, K v w → Fr n ((d, v) :: L) a → wpList P ops Q rest a w) : wpList P ops Q (o :: rest) a w :=
  wpList_plain hg fun K' hK' => by
    unfold Oper.wp
    rw [hrun, Oper.upon_enter, hd]
    refine hc.mono ?_
    rintro e w' ⟨v, rfl, hv⟩
    exact hK' _ _ (k v w' _ hv (hf.put hdn v))
theorem o_call (hf : Fr n L a) {f : FuncId} (hcb : Callable P f) {args : List Operand} {tys : Array TypeId} {vs : List Value} (ha : evs L args = some vs) (hdn : Nat.blt d n = true)
    {K : Value → World → Prop} (hc : Calls P f ⟨vs⟩ w fun e w' => ∃ v, e = .returned v ∧ K v w') (k : ∀ v w a, K v w → Fr n ((d, v) :: L) a → wpList P ops Q rest a w) :
    wpList P ops Q (⟨some d, .call { callee := .value (.func f), args := args.toArray, argTypes := tys }, ty, pos, aft, none⟩ :: rest) a w := by
  refine o_enter rfl rfl ?_ hf hdn hc k
  simp [execOp, resolve, Act.eval, Deferred.ofValue, invoke, run_callFunc hcb, hf.evs ha]
/-- A call of a function value. -/
theorem o_callV (hf : Fr n L a) {t : Operand} {f : FuncId} {cap : List Value} (ht : ev L t = some (.func (.func f) #[] ⟨cap⟩)) (hcb : Callable P f) {args : List Operand} {tys : Array TypeId} {vs : List Value} (ha : evs L args = some vs) (hdn : Nat.blt d n = true)
    {K : Value → World → Prop} (hc : Calls P f ⟨vs ++ cap⟩ w fun e w' => ∃ v, e = .returned v ∧ K v w') (k : ∀ v w a, K v w → Fr n ((d, v) :: L) a → wpList P ops Q rest a w) :
    wpList P ops Q (⟨some d, .call { callee := .value t, args := args.toArray, argTypes := tys }, ty, pos, aft, none⟩ :: rest) a w := by
  refine o_enter rfl rfl ?_ hf hdn hc k
  simp [execOp, resolve, hf.ev ht, Deferred.ofValue, invoke, run_callFunc hcb, hf.evs ha]

/-! The way in and the way out -/
theorem c_enter {f : FuncId} {fn : Func} {c : Code} {args : List Value} {R : Ending → World → Prop} (hf : P.funcs[f]? = some fn) (hb : fn.body = some c) (hn : fn.ntmps = n) (hl : Nat.ble args.length n = true)
    (h : ∀ a, Fr n (args.zipIdx.map fun p => (p.2, p.1)) a → c.wp P (bodyPost P fn R) a w) : Calls P f ⟨args⟩ w R := by
  refine calls_of_wp hf hb (h _ ⟨rfl, ?_, ?_⟩)
  · have : args.length ≤ n := by simpa [Nat.ble_eq] using hl
    simp [hn]; omega
  · intro t v ht
    have key : ∀ (l : List Value) (s : Nat), lk ((l.zipIdx s).map fun p => (p.2, p.1)) t = some v → s ≤ t ∧ l[t - s]? = some v := by
      intro l
      induction l with
      | nil => intro s h; simp [lk] at h
      | cons x l ih =>
        intro s h
        simp only [List.zipIdx_cons, List.map_cons, lk] at h
        cases hb : Nat.beq s t with
        | true =>
          rw [hb] at h
          have : s = t := Nat.eq_of_beq_eq_true hb
          subst this
          simp at h
          simp [h]
        | false =>
          rw [hb] at h
          obtain ⟨h1, h2⟩ := ih (s + 1) h
          refine ⟨by omega, ?_⟩
          rw [show t - s = (t - (s + 1)) + 1 by omega]
          simpa using h2
    obtain ⟨-, h2⟩ := key args 0 ht
    have h3 : t < args.length := (List.getElem?_eq_some_iff.1 (by simpa using h2)).1
    rw [Array.getElem?_append_left (by simpa using h3)]
    simpa using h2
theorem b_ret1 (hf : Fr n L a) {fn : Func} {t : Nat} (hr : fn.results = #[.tmp t]) {v : Value} (hv : lk L t = some v) {R : Ending → World → Prop} (h : R (.returned v) w) : bodyPost P fn R .ret a w := by
  refine ⟨hf.df, v, ?_, h⟩
  rw [results_tmp hr]
  have := hf.at_ t v hv
  simp [Array.getD_eq_getD_getElem?, this]
theorem b_ret0 (hf : Fr n L a) {fn : Func} (hr : fn.results = #[]) {R : Ending → World → Prop} (h : R (.returned (.tuple #[])) w) : bodyPost P fn R .ret a w := ⟨hf.df, _, results_none hr _ _ _, h⟩
theorem b_end0 (hf : Fr n L a) {fn : Func} (hr : fn.results = #[]) {R : Ending → World → Prop} (h : R (.returned (.tuple #[])) w) : bodyPost P fn R .normal a w := ⟨hf.df, _, results_none hr _ _ _, h⟩
theorem b_ret2 (hf : Fr n L a) {fn : Func} {t u : Nat} (hr : fn.results = #[.tmp t, .tmp u]) {v v' : Value} (hv : lk L t = some v) (hv' : lk L u = some v') {R : Ending → World → Prop} (h : R (.returned (.tuple ⟨[v, v']⟩)) w) : bodyPost P fn R .ret a w := by
  refine ⟨hf.df, _, ?_, h⟩
  rw [results_tmp2 hr]
  have h1 := hf.at_ t v hv
  have h2 := hf.at_ u v' hv'
  simp [Array.getD_eq_getD_getElem?, h1, h2]
theorem b_ret3 (hf : Fr n L a) {fn : Func} {t u s : Nat} (hr : fn.results = #[.tmp t, .tmp u, .tmp s]) {v v' v'' : Value} (hv : lk L t = some v) (hv' : lk L u = some v') (hv'' : lk L s = some v'') {R : Ending → World → Prop} (h : R (.returned (.tuple ⟨[v, v', v'']⟩)) w) : bodyPost P fn R .ret a w := by
  refine ⟨hf.df, _, ?_, h⟩
  have h1 := hf.at_ t v hv
  have h2 := hf.at_ u v' hv'
  have h3 := hf.at_ s v'' hv''
  simp [results, hr, Array.getD_eq_getD_getElem?, h1, h2, h3]
end rules

end Go.Lf
