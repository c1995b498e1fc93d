/- Slices: what a slice's value reads as, rows that are appended to and written, and the operations on them. -/
import Derived.Test.YtckhmgglgbnaaaaU1
set_option linter.unusedVariables false
set_option linter.unusedSimpArgs false
namespace Go.Lf
open Go

/-! ### Elements -/
structure EK (α : Type) where
 sz : Nat
 pos : 0 < sz
 rel : IH → α → List Value → Prop
 mono : ∀ {I J x cs}, IH.le I J → rel I x cs → rel J x cs
 len : ∀ {I x cs}, rel I x cs → cs.length = sz
 one : ∀ {I x cs}, rel I x cs → ∀ u ∈ cs, u.oneCell' = true

/-- An element that is just its cells. -/
def ekP {α : Type} (enc : α → List Value) (sz : Nat) (pos : 0 < sz) (hl : ∀ x, (enc x).length = sz) (h1 : ∀ x, ∀ u ∈ enc x, u.oneCell' = true) : EK α :=
 { sz, pos, rel := fun _ x cs => cs = enc x, mono := fun _ h => h, len := fun h => by subst h; exact hl _, one := fun h => by subst h; exact h1 _ }
def ekI (k : IntKind) : EK Int := ekP (fun x => [.int k x]) 1 (by decide) (by simp) (by simp [Value.oneCell'])
def ekS : EK ByteArray := ekP (fun x => [.string x]) 1 (by decide) (by simp) (by simp [Value.oneCell'])
def ekB : EK Bool := ekP (fun x => [.bool x]) 1 (by decide) (by simp) (by simp [Value.oneCell'])

section
variable {α : Type} {K : EK α} {I J : IH} {w : World}

/-- A slice's length is at most its capacity. -/
def vok : Value → Prop | .slice _ n c => n ≤ c | _ => True
/-- The cells of a row of elements. -/
def RowR (K : EK α) (I : IH) (cs : List Value) (xs : List α) : Prop := cs.length = xs.length * K.sz ∧ ∀ i x, xs[i]? = some x → K.rel I x ((cs.drop (i * K.sz)).take K.sz)
/-- A slice that reads as a list, in a world. -/
def Rd (K : EK α) (I : IH) (w : World) (v : Value) (xs : List α) : Prop :=
 (xs.length ≤ 9223372036854775807 ∧ vok v) ∧ ∃ A c, v = .slice A xs.length c ∧ (xs = [] ∨ ∃ b off cs e fr, A = some ⟨b, off, none⟩ ∧ w.heap[b]? = some (.cells ⟨cs⟩ e fr) ∧ ∀ i x, xs[i]? = some x → K.rel I x ((cs.drop (off + i * K.sz)).take K.sz))
/-- A slice that reads as a list, whatever comes: its block is immutable. -/
def RS (K : EK α) (I : IH) (v : Value) (xs : List α) : Prop :=
 (xs.length ≤ 9223372036854775807 ∧ vok v) ∧ ∃ A c, v = .slice A xs.length c ∧ (xs = [] ∨ ∃ b off cs e fr, A = some ⟨b, off, none⟩ ∧ I b = some (.cells ⟨cs⟩ e fr) ∧ ∀ i x, xs[i]? = some x → K.rel I x ((cs.drop (off + i * K.sz)).take K.sz))

theorem RowR.nil : RowR K I [] [] := ⟨by simp, by simp⟩
theorem RowR.mono {cs : List Value} {xs : List α} (h : RowR K I cs xs) (hI : IH.le I J) : RowR K J cs xs := ⟨h.1, fun i x hx => K.mono hI (h.2 i x hx)⟩
theorem RS.mono {v : Value} {xs : List α} (h : RS K I v xs) (hI : IH.le I J) : RS K J v xs := by
 obtain ⟨hl, A, c, hv, h | ⟨b, off, cs, e, fr, hA, hb, hr⟩⟩ := h
 ·exact ⟨hl, A, c, hv, .inl h⟩
 ·exact ⟨hl, A, c, hv, .inr ⟨b, off, cs, e, fr, hA, hI _ _ hb, fun i x hx => K.mono hI (hr i x hx)⟩⟩
theorem RS.rd {E : World} {O : List Atom} {v : Value} {xs : List α} (h : RS K I v xs) (hw : Ok E I O w) : Rd K I w v xs := by
 obtain ⟨hl, A, c, hv, h | ⟨b, off, cs, e, fr, hA, hb, hr⟩⟩ := h
 ·exact ⟨hl, A, c, hv, .inl h⟩
 ·exact ⟨hl, A, c, hv, .inr ⟨b, off, cs, e, fr, hA, hw.imm _ _ hb, hr⟩⟩
theorem RS.nil : RS K I (.slice none 0 0) ([] : List α) := ⟨⟨by simp, Nat.le_refl _⟩, none, 0, rfl, .inl rfl⟩
theorem RS.one {v : Value} {xs : List α} (h : RS K I v xs) : v.oneCell' = true := by obtain ⟨_, A, c, rfl, _⟩ := h; rfl
theorem RS.len {v : Value} {xs : List α} (h : RS K I v xs) : xs.length ≤ 9223372036854775807 := h.1.1
theorem Rd.one {v : Value} {xs : List α} (h : Rd K I w v xs) : v.oneCell' = true := by obtain ⟨_, A, c, rfl, _⟩ := h; rfl
theorem one_cells {v : Value} (h : v.oneCell' = true) : v.cells = ⟨[v]⟩ := by cases v <;> first | rfl | simp [Value.oneCell'] at h

theorem drop_take_append {β : Type} (A B : List β) (i s : Nat) (h : i + s ≤ A.length) : ((A ++ B).drop i).take s = (A.drop i).take s := by
 rw [List.drop_append_of_le_length (by omega), List.take_append_of_le_length (by simp; omega)]
theorem RowR.append {cs ds : List Value} {xs ys : List α} (h : RowR K I cs xs) (k : RowR K I ds ys) : RowR K I (cs ++ ds) (xs ++ ys) := by
 refine ⟨by simp [h.1, k.1, Nat.add_mul], ?_⟩
 intro i x hx
 by_cases hi : i < xs.length
 ·rw [List.getElem?_append_left hi] at hx
  have := h.2 i x hx
  rw [drop_take_append _ _ _ _ (by rw [h.1, ← Nat.succ_mul]; exact Nat.mul_le_mul_right _ hi)]
  exact this
 ·rw [List.getElem?_append_right (by omega)] at hx
  have := k.2 _ x hx
  rw [List.drop_append, List.drop_eq_nil_of_le (by rw [h.1]; exact Nat.mul_le_mul_right _ (by omega)), List.nil_append, h.1, ← Nat.sub_mul]
  exact this
theorem RowR.snoc {cs c : List Value} {xs : List α} {x : α} (h : RowR K I cs xs) (k : K.rel I x c) : RowR K I (cs ++ c) (xs ++ [x]) := by
 refine h.append ⟨by simp [K.len k], ?_⟩
 intro i y hy
 cases i with
 | zero => simp at hy; subst hy; rw [Nat.zero_mul, List.drop_zero, ← K.len k, List.take_length]; exact k
 | succ i => simp at hy
theorem RowR.single {c : List Value} {x : α} (k : K.rel I x c) : RowR K I c [x] := by simpa using (RowR.nil (K := K) (I := I)).snoc k
theorem RowR.one {cs : List Value} {xs : List α} (h : RowR K I cs xs) : ∀ u ∈ cs, u.oneCell' = true := by
 intro u hu
 obtain ⟨j, hj⟩ := List.mem_iff_getElem?.1 hu
 have hjl : j < cs.length := (List.getElem?_eq_some_iff.1 hj).1
 have hi : j / K.sz < xs.length := by rw [Nat.div_lt_iff_lt_mul K.pos]; rw [← h.1]; exact hjl
 have hr := h.2 (j / K.sz) _ (List.getElem?_eq_getElem hi)
 refine K.one hr u ?_
 refine List.mem_iff_getElem?.2 ⟨j % K.sz, ?_⟩
 rw [List.getElem?_take, if_pos (Nat.mod_lt _ K.pos), List.getElem?_drop, Nat.mul_comm, Nat.div_add_mod]
 exact hj

/-! ### An owned row -/
theorem row_form {E : World} {O : List Atom} {v : Value} {e sz n : Nat} {cs : List Value} (hw : Ok E I O w) {i : Nat} (hO : O[i]? = some (.row v e sz n cs)) : w.ownsRow 0 e sz v n cs := hw.own _ (List.mem_of_getElem? hO)
theorem row_rd {E : World} {O : List Atom} {v : Value} {e n : Nat} {cs : List Value} {xs : List α} (hw : Ok E I O w) {i : Nat} (hO : O[i]? = some (.row v e K.sz n cs)) (hR : RowR K I cs xs) : Rd K I w v xs := by
 obtain ⟨h1, h2⟩ := row_form hw hO
 have hn : n = xs.length := Nat.eq_of_mul_eq_mul_right K.pos (by rw [← h1, hR.1])
 subst hn
 rcases h2 with ⟨rfl, h0⟩ | ⟨g, cap, cur, rfl, _, hg, hc, hm, hs, ht⟩
 ·exact ⟨⟨by omega, Nat.le_refl _⟩, none, 0, by rw [h0], .inl (List.eq_nil_of_length_eq_zero h0)⟩
 ·refine ⟨⟨by simp only [maxLen] at hm; omega, hc⟩, _, cap, rfl, .inr ⟨g, 0, cur.toList, e, (0, 0), rfl, hg, ?_⟩⟩
  intro i x hx
  have hi : i < xs.length := (List.getElem?_eq_some_iff.1 hx).1
  have := hR.2 i x hx
  rw [← ht] at this
  have hle : i * K.sz + K.sz ≤ xs.length * K.sz := by rw [← Nat.succ_mul]; exact Nat.mul_le_mul_right _ hi
  rw [List.drop_take, List.take_take, Nat.min_eq_left (by omega)] at this
  simpa using this
theorem row_len {E : World} {O : List Atom} {v : Value} {e n : Nat} {cs : List Value} {xs : List α} (hw : Ok E I O w) {i : Nat} (hO : O[i]? = some (.row v e K.sz n cs)) (hR : RowR K I cs xs) : n = xs.length := by
 have h1 := (row_form hw hO).1
 exact Nat.eq_of_mul_eq_mul_right K.pos (by rw [← h1, hR.1])
/-- A row is made immutable. -/
theorem row_freeze {E : World} {O : List Atom} {v : Value} {e n : Nat} {cs : List Value} {xs : List α} (hw : Ok E I (.row v e K.sz n cs :: O) w) (hR : RowR K I cs xs) : ∃ J, IH.le I J ∧ Ok E J O w ∧ RS K J v xs := by
 have hrd := row_rd (i := 0) hw rfl hR
 obtain ⟨h1, h2⟩ := row_form (i := 0) hw rfl
 have hn := row_len (i := 0) hw rfl hR
 subst hn
 rcases h2 with ⟨rfl, h0⟩ | ⟨g, cap, cur, rfl, _, hg, hc, hm, hs, ht⟩
 ·exact ⟨I, IH.le_refl I, hw.tail, ⟨by omega, Nat.le_refl _⟩, none, 0, by rw [h0], .inl (List.eq_nil_of_length_eq_zero h0)⟩
 ·have hb : Ok E I (.blk g (.cells cur e (0, 0)) :: O) w := by
   refine ⟨hw.os, hw.tape, hw.output, hw.imm, ?_, ?_, ?_⟩
   ·intro A hA
    rcases List.mem_cons.1 hA with rfl | hA
    ·exact hg
    ·exact hw.own A (by simp [hA])
   ·exact List.pairwise_cons.2 ⟨fun B hB b hb => (List.pairwise_cons.1 hw.nd).1 B hB b hb, (List.pairwise_cons.1 hw.nd).2⟩
   ·intro A hA b hb
    rcases List.mem_cons.1 hA with rfl | hA
    ·exact hw.sep (.row (.slice (some ⟨g, 0, none⟩) xs.length cap) e K.sz xs.length cs) (by simp) b hb
    ·exact hw.sep A (by simp [hA]) b hb
  obtain ⟨hok, hle⟩ := hb.freeze
  refine ⟨_, hle, hok, ⟨by simp only [maxLen] at hm; omega, hc⟩, _, cap, rfl, .inr ⟨g, 0, cur.toList, e, (0, 0), rfl, by simp [IH.add], ?_⟩⟩
  obtain ⟨-, A, c, hv, h | ⟨b, off, ds, e', fr, hA, hbb, hr⟩⟩ := hrd
  ·subst h; simp
  ·injection hv with hv1 hv2 hv3
   rw [hA] at hv1
   injection hv1 with hv1
   injection hv1 with hb1 hb2
   subst hb1 hb2
   rw [hg] at hbb
   injection hbb with hbb
   injection hbb with hd
   subst hd
   exact fun i x hx => K.mono hle (hr i x hx)
theorem Ok.nilrow {E : World} {O : List Atom} (hw : Ok E I O w) (e sz : Nat) : Ok E I (.row (.slice none 0 0) e sz 0 [] :: O) w :=
 hw.new (World.grownBy.refl w none) (World.ownsRow_nil w 0 e sz) (by simp [Atom.foot, Value.ownBlock])

/-! ### Operations -/
def hd (v : Value) (k : Nat) : Addr := match v with | .slice (some a) _ _ => ⟨a.block, a.off + k, none⟩ | _ => ⟨0, k, none⟩
def gt [Inhabited α] (xs : List α) (i : Int) : α := xs.getD i.toNat default
theorem gt_get [Inhabited α] {xs : List α} {i : Int} (h : 0 ≤ i ∧ i < xs.length) : xs[i.toNat]? = some (gt xs i) := by
 have : i.toNat < xs.length := by omega
 simp [gt, List.getD_eq_getElem?_getD, List.getElem?_eq_getElem this]

variable {P : Program} {ops : Array Oper} {Q : Exit → Act → World → Prop} {rest : List Oper} {a : Act} {E : World} {O : List Atom} {n : Nat} {L : List (Nat × Value)} {ty : TypeId} {pos : String} {aft : Array Edge} {d : Nat} {gd : Option (Nat × Bool)}

theorem r_lenL (hf : Fr n L a) {x : Operand} {t e es : Nat} {v : Value} {xs : List α} (ht : elD P t = some (none, e, es)) (hx : ev L x = some v) {w0 : World} (hR : Rd K I w0 v xs) :
  (execOp a.eval (⟨some d, .call { callee := .builtin .len, args := #[x], argTypes := #[t] }, ty, pos, aft, gd⟩ : Oper)).run P w = .ok (.value (.int .i64 xs.length)) w := by
 obtain ⟨i, hu, -, -⟩ := el_slice ht
 obtain ⟨-, A, c, rfl, -⟩ := hR
 exact (by simp [execOp, resolve, invoke, builtin, hf.ev hx, Builtin.len_, run_underlying hu, goInt])
theorem r_indexAddr (hf : Fr n L a) {x y : Operand} {t e es : Nat} {v : Value} {xs : List α} {ik : IntKind} {i : Int} (ht : elD P t = some (none, e, es)) (hx : ev L x = some v) (hy : ev L y = some (.int ik i)) {w0 : World} (hR : Rd K I w0 v xs) (hi : 0 ≤ i ∧ i < xs.length) :
  (execOp a.eval (⟨some d, .indexAddr t x y, ty, pos, aft, gd⟩ : Oper)).run P w = .ok (.value (.pointer (some (hd v (i.toNat * es))))) w := by
 obtain ⟨it, hu, hi1, hi2⟩ := el_slice ht
 obtain ⟨-, A, c, rfl, h | ⟨b, off, cs, e', fr, rfl, hb, hr⟩⟩ := hR
 ·subst h; simp at hi; omega
 ·simp [execOp, Instr.indexAt, asIntOf, hf.ev hx, hf.ev hy, run_underlying hu, hi.1, hi.2, sizeOf, typeInfo, hi1, hi2, add_lit, hd]
theorem r_fieldAddrH (hf : Fr n L a) {s fk : Nat} {x : Operand} {v : Value} {m : Nat} (hx : ev L x = some (.pointer (some (hd v m)))) {fo ft fs : Nat} (ht : fdD P s fk = some (fo, ft, fs + 1)) :
  (execOp a.eval (⟨some d, .fieldAddr s x fk, ty, pos, aft, gd⟩ : Oper)).run P w = .ok (.value (.pointer (some (hd v (m + fo))))) w := by
 obtain ⟨fields, f, i, hu, hfk, ho, hft, hi, his⟩ := fd_field ht
 have hadd : (hd v m).add fo = hd v (m + fo) := by
  unfold hd
  split <;> simp [add_lit, Nat.add_assoc]
 exact (by simp [execOp, Instr.fieldAt, run_underlying hu, hfk, hf.ev hx, Instr.sureAddr, fieldPlace, sizeOf, typeInfo, hi, his, hadd, ho])
/-- &p.arr[i], in a block -/
theorem r_indexAddrA (hf : Fr n L a) {x y : Operand} {t e m : Nat} {b off : Nat} {ik : IntKind} {i : Int} (ht : elD P t = some (some (m + 2), e, 1)) (hx : ev L x = some (.pointer (some ⟨b, off, none⟩))) (hy : ev L y = some (.int ik i)) (hi : 0 ≤ i ∧ i < ((m + 2 : Nat) : Int)) :
  (execOp a.eval (⟨some d, .indexAddr t x y, ty, pos, aft, gd⟩ : Oper)).run P w = .ok (.value (.pointer (some ⟨b, off + i.toNat, none⟩))) w := by
 obtain ⟨it, hu, hi1, hi2⟩ := el_array ht
 have h2 : i < (m : Int) + 2 := by have := hi.2; simpa using this
 simp [execOp, Instr.indexAt, asIntOf, hf.ev hx, hf.ev hy, run_underlying hu, hi.1, h2, sizeOf, typeInfo, hi1, hi2, add_lit, Instr.sureAddr]
/-- the same, of an element of a slice -/
theorem r_indexAddrAH (hf : Fr n L a) {x y : Operand} {t e m : Nat} {v : Value} {q : Nat} {ik : IntKind} {i : Int} (ht : elD P t = some (some (m + 2), e, 1)) (hx : ev L x = some (.pointer (some (hd v q)))) (hy : ev L y = some (.int ik i)) (hi : 0 ≤ i ∧ i < ((m + 2 : Nat) : Int)) :
  (execOp a.eval (⟨some d, .indexAddr t x y, ty, pos, aft, gd⟩ : Oper)).run P w = .ok (.value (.pointer (some (hd v (q + i.toNat))))) w := by
 obtain ⟨it, hu, hi1, hi2⟩ := el_array ht
 have hadd : (hd v q).add i.toNat = hd v (q + i.toNat) := by
  unfold hd
  split <;> simp [add_lit, Nat.add_assoc]
 have h2 : i < (m : Int) + 2 := by have := hi.2; simpa using this
 simp [execOp, Instr.indexAt, asIntOf, hf.ev hx, hf.ev hy, run_underlying hu, hi.1, h2, sizeOf, typeInfo, hi1, hi2, hadd, Instr.sureAddr]

/-- Where an element's cells lie. -/
theorem rd_at {v : Value} {xs : List α} [Inhabited α] {i : Int} (hR : Rd K I w v xs) (hi : 0 ≤ i ∧ i < xs.length) : ∃ cs ds e fr off, K.rel I (gt xs i) cs ∧ w.heap[(hd v 0).block]? = some (.cells ⟨ds⟩ e fr) ∧ (∀ q, hd v q = ⟨(hd v 0).block, off + q, none⟩) ∧ (ds.drop (off + i.toNat * K.sz)).take K.sz = cs := by
 obtain ⟨-, A, c, rfl, h | ⟨b, off, cs, e', fr, rfl, hb, hr⟩⟩ := hR
 ·subst h; simp at hi; omega
 ·exact ⟨_, cs, e', fr, off, hr _ _ (gt_get hi), hb, fun q => rfl, rfl⟩
theorem sub_get {ds cs : List Value} {o s f : Nat} {u : Value} (h : (ds.drop o).take s = cs) (hu : cs[f]? = some u) : ds[o + f]? = some u := by
 subst h
 rw [List.getElem?_take, List.getElem?_drop] at hu
 split at hu
 ·exact hu
 ·cases hu
theorem sub_take {ds cs vs : List Value} {o s f m : Nat} (h : (ds.drop o).take s = cs) (hv : (cs.drop f).take m = vs) (hl : vs.length = m) (hm : 0 < m) : (ds.drop (o + f)).take m = vs := by
 subst h
 have hlen : f + m ≤ s := by
  have : ((List.take s (List.drop o ds)).drop f).length ≥ m := by
   have := congrArg List.length hv
   rw [hl, List.length_take] at this
   omega
  rw [List.length_drop, List.length_take] at this
  omega
 rw [List.drop_take, List.drop_drop, List.take_take] at hv
 rw [← hv, Nat.min_eq_left (by omega)]
/-- A cell of an element. -/
theorem r_loadH [Inhabited α] (hf : Fr n L a) {t : TypeId} {x : Operand} {v : Value} {q : Nat} (hx : ev L x = some (.pointer (some (hd v q)))) {sz by_ : Nat} {z : List Value} (ht : tyD P t = some (false, sz, by_, z))
  {xs : List α} {i : Int} {fo : Nat} (hR : Rd K I w v xs) (hi : 0 ≤ i ∧ i < xs.length) (hq : q = i.toNat * K.sz + fo) {u : Value} (hu : ∀ cs, K.rel I (gt xs i) cs → cs[fo]? = some u) :
  (execOp a.eval (⟨some d, .load t x, ty, pos, aft, gd⟩ : Oper)).run P w = .ok (.value (u)) w := by
 obtain ⟨cs, ds, e, fr, off, hr, hb, hh, hs⟩ := rd_at hR hi
 have h1 : ds[off + q]? = some u := by rw [hq, ← Nat.add_assoc]; exact sub_get hs (hu cs hr)
 simp [execOp, Instr.loadAt, hf.ev hx, Instr.sureAddr, hh q, run_load_blk ht hb h1]
/-- Cells of an element, as they are told. -/
theorem r_loadHP [Inhabited α] (hf : Fr n L a) {t : TypeId} {x : Operand} {v : Value} {q : Nat} (hx : ev L x = some (.pointer (some (hd v q)))) {sz by_ : Nat} {z : List Value} (ht : tyD P t = some (true, sz + 1, by_, z))
  {xs : List α} {i : Int} {fo : Nat} (hR : Rd K I w v xs) (hi : 0 ≤ i ∧ i < xs.length) (hq : q = i.toNat * K.sz + fo) {vs : List Value} (hu : ∀ cs, K.rel I (gt xs i) cs → (cs.drop fo).take (sz + 1) = vs) (hl : vs.length = sz + 1) :
  (execOp a.eval (⟨some d, .load t x, ty, pos, aft, gd⟩ : Oper)).run P w = .ok (.value (.agg ⟨vs⟩)) w := by
 obtain ⟨cs, ds, e, fr, off, hr, hb, hh, hs⟩ := rd_at hR hi
 have h1 : (ds.drop (off + q)).take (sz + 1) = vs := by rw [hq, ← Nat.add_assoc]; exact sub_take hs (hu cs hr) hl (by omega)
 simp [execOp, Instr.loadAt, hf.ev hx, Instr.sureAddr, hh q, run_load_blkA ht hb h1 hl]
/-- Where an element of an immutable slice lies, whatever comes. -/
theorem rs_at {v : Value} {xs : List α} [Inhabited α] {i : Int} (hR : RS K I v xs) (hi : 0 ≤ i ∧ i < xs.length) : ∃ cs ds e fr off, K.rel I (gt xs i) cs ∧ (∀ (E : World) (O : List Atom) (w : World), Ok E I O w → w.heap[(hd v 0).block]? = some (.cells ⟨ds⟩ e fr)) ∧ (∀ q, hd v q = ⟨(hd v 0).block, off + q, none⟩) ∧ (ds.drop (off + i.toNat * K.sz)).take K.sz = cs := by
 obtain ⟨-, A, c, rfl, h | ⟨b, off, cs, e', fr, rfl, hb, hr⟩⟩ := hR
 ·subst h; simp at hi; omega
 ·exact ⟨_, cs, e', fr, off, hr _ _ (gt_get hi), fun E O w hw => hw.imm _ _ hb, fun q => rfl, rfl⟩
theorem rs_loadHA [Inhabited α] {P : Program} {t : TypeId} {v : Value} {q : Nat} {sz by_ : Nat} {z : List Value} (ht : tyD P t = some (true, sz + 1, by_, z))
  {xs : List α} {i : Int} {fo : Nat} (hR : RS K I v xs) (hi : 0 ≤ i ∧ i < xs.length) (hq : q = i.toNat * K.sz + fo) {Post : List Value → Prop} (hu : ∀ cs, K.rel I (gt xs i) cs → ∃ vs, (cs.drop fo).take (sz + 1) = vs ∧ vs.length = sz + 1 ∧ Post vs) :
  ∃ vs, Post vs ∧ ∀ (E : World) (O : List Atom) (w : World) (n : Nat) (L : List (Nat × Value)) (a : Act) (d : Nat) (x : Operand) (ty : TypeId) (pos : String) (aft : Array Edge) (gd : Option (Nat × Bool)), Ok E I O w → Fr n L a → ev L x = some (.pointer (some (hd v q))) →
   (execOp a.eval (⟨some d, .load t x, ty, pos, aft, gd⟩ : Oper)).run P w = .ok (.value (.agg ⟨vs⟩)) w := by
 obtain ⟨cs, ds, e, fr, off, hr, hb, hh, hs⟩ := rs_at hR hi
 obtain ⟨vs, hu1, hu2, hu3⟩ := hu cs hr
 refine ⟨vs, hu3, fun E O w n L a d x ty pos aft gd hw hf hx => ?_⟩
 have h1 : (ds.drop (off + q)).take (sz + 1) = vs := by rw [hq, ← Nat.add_assoc]; exact sub_take hs hu1 hu2 (by omega)
 simp [execOp, Instr.loadAt, hf.ev hx, Instr.sureAddr, hh q, run_load_blkA ht (hb E O w hw) h1 hu2]
/-- The same of an owned row. -/
theorem row_at {E : World} {O : List Atom} {v : Value} {e m : Nat} {cs : List Value} {xs : List α} [Inhabited α] {i : Int} (hw : Ok E I O w) {j : Nat} (hO : O[j]? = some (.row v e K.sz m cs)) (hR : RowR K I cs xs) (hi : 0 ≤ i ∧ i < xs.length) {fo : Nat} (hfo : fo < K.sz) :
  w.cell? (hd v (i.toNat * K.sz + fo)) = ((cs.drop (i.toNat * K.sz)).take K.sz)[fo]? := by
 have hm := row_len hw hO hR
 obtain ⟨hl1, h2⟩ := row_form hw hO
 have hil : i.toNat < xs.length := by omega
 have hle : i.toNat * K.sz + K.sz ≤ xs.length * K.sz := by rw [← Nat.succ_mul]; exact Nat.mul_le_mul_right _ hil
 rcases h2 with ⟨rfl, h0⟩ | ⟨g, cap, cur, rfl, _, hg, hc, hmm, hs, htk⟩
 ·omega
 ·simp only [hd, Nat.zero_add]
  rw [cell_blk (cs := cur.toList) (by simpa using hg), ← htk, List.getElem?_take, if_pos hfo, List.getElem?_drop, List.getElem?_take, if_pos (by rw [hm]; omega)]
/-- A store into a row: some cells of an element. -/
theorem row_store {v : Value} {e m : Nat} {cs : List Value} {xs : List α} [Inhabited α] {i : Int} {fo : Nat} {vs : List Value} {x' : α} {j t sz by_ : Nat} {ag : Bool} {z : List Value} {u : Value} (hw : Ok E I O w) (hO : O[j]? = some (.row v e K.sz m cs)) (hR : RowR K I cs xs)
  (hi : 0 ≤ i ∧ i < xs.length) (ht : tyD P t = some (ag, sz, by_, z)) (hv : u.cells = ⟨vs⟩) (hvs : vs.length = sz) (h1 : ∀ u ∈ vs, u.oneCell' = true) (hfit : fo + sz ≤ K.sz)
  (hx' : ∀ c, K.rel I (gt xs i) c → K.rel I x' (c.take fo ++ vs ++ c.drop (fo + sz))) :
  ∃ w' cs', (storeVar t (hd v (i.toNat * K.sz + fo)) u).run P w = .ok () w' ∧ Ok E I (O.set j (.row v e K.sz m cs')) w' ∧ RowR K I cs' (xs.set i.toNat x') := by
 have hown := row_form hw hO
 have hm := row_len hw hO hR
 have hil : i.toNat < xs.length := by omega
 have hle : i.toNat * K.sz + K.sz ≤ xs.length * K.sz := by rw [← Nat.succ_mul]; exact Nat.mul_le_mul_right _ hil
 obtain ⟨hl1, h2⟩ := hown
 rcases h2 with ⟨rfl, h0⟩ | ⟨g, cap, cur, rfl, _, hg, hc, hmm, hs, htk⟩
 ·omega
 ·have hgl : w.heap[g]? = some (.cells ⟨cur.toList⟩ e (0, 0)) := by simpa using hg
  have hfl : i.toNat * K.sz + fo + sz ≤ cur.toList.length := by
   have : m * K.sz ≤ cap * K.sz := Nat.mul_le_mul_right _ hc
   simp only [Array.length_toList]
   rw [hs]
   rw [hm] at this
   omega
  have hrun := run_store_blk (P := P) (v := u) ht hgl vs hv hvs h1 hfl
  have hoff : hd (.slice (some ⟨g, 0, none⟩) m cap) (i.toNat * K.sz + fo) = ⟨g, i.toNat * K.sz + fo, none⟩ := by simp [hd]
  rw [hoff]
  generalize hq : i.toNat * K.sz + fo = q at *
  refine ⟨_, cs.take q ++ vs ++ cs.drop (q + sz), hrun, ?_, ?_, ?_⟩
  ·refine hw.step hO (A' := .row (.slice (some ⟨g, 0, none⟩) m cap) e K.sz m (cs.take q ++ vs ++ cs.drop (q + sz))) setRow_grown ?_ (fun c hc => .inl hc)
   have hcl : q + sz ≤ cs.length := by rw [hl1, hm]; omega
   refine ⟨?_, .inr ⟨g, cap, _, rfl, Nat.zero_le _, setRow_heap w g _ _ e _ hg, hc, hmm, ?_, ?_⟩⟩
   ·simp only [List.length_append, List.length_take, List.length_drop, hvs]
    rw [← hl1]; omega
   ·simp only [List.size_toArray, List.length_append, List.length_take, List.length_drop, hvs, Array.length_toList] at hfl ⊢
    rw [← hs]; omega
   ·show List.take (m * K.sz) (cur.toList.take q ++ vs ++ cur.toList.drop (q + sz)) = _
    have e1 : cs.length = m * K.sz := hl1
    rw [← htk]
    rw [List.take_append, List.take_append, List.take_take, List.take_take]
    have hA : (List.take q cur.toList).length = q := by rw [List.length_take]; omega
    rw [hA]
    have h3 : min (m * K.sz) q = q := by rw [hm]; omega
    have h4 : min q (m * K.sz) = q := by omega
    rw [h3, h4]
    have h5 : List.take (m * K.sz - q) vs = vs := List.take_of_length_le (by rw [hvs, hm]; omega)
    rw [h5]
    congr 1
    rw [List.drop_take]
    congr 1
    simp only [List.length_append, hA, hvs]
  ·have hcl : q + sz ≤ cs.length := by rw [hl1, hm]; omega
   simp only [List.length_append, List.length_take, List.length_drop, hvs, List.length_set]
   rw [← hR.1]; omega
  ·intro p x hx
   have hcl : q + sz ≤ cs.length := by rw [hl1, hm]; omega
   have hpl : p < xs.length := by have := (List.getElem?_eq_some_iff.1 hx).1; simpa using this
   have hple : p * K.sz + K.sz ≤ xs.length * K.sz := by rw [← Nat.succ_mul]; exact Nat.mul_le_mul_right _ hpl
   have hcl2 : cs.length = xs.length * K.sz := hR.1
   rw [List.getElem?_set] at hx
   by_cases hp : i.toNat = p
   ·subst hp
    simp [hil] at hx
    subst hx
    have hr := hx' _ (hR.2 _ _ (gt_get hi))
    have key : (List.drop (i.toNat * K.sz) (cs.take q ++ vs ++ cs.drop (q + sz))).take K.sz = List.take fo ((cs.drop (i.toNat * K.sz)).take K.sz) ++ vs ++ List.drop (fo + sz) ((cs.drop (i.toNat * K.sz)).take K.sz) := by
     apply List.ext_getElem?
     intro r
     simp only [List.getElem?_take, List.getElem?_drop, List.getElem?_append, List.length_take, List.length_drop, List.length_append, hvs]
     by_cases hr1 : r < fo
     ·simp [hr1, show r < K.sz by omega, show i.toNat * K.sz + r < min q cs.length + sz by omega, show i.toNat * K.sz + r < min q cs.length by omega, show r < min fo (min K.sz (cs.length - i.toNat * K.sz)) by omega, show r < min fo (min K.sz (cs.length - i.toNat * K.sz)) + sz by omega, show i.toNat * K.sz + r < q by omega]
     ·by_cases hr2 : r < fo + sz
      ·simp [show r < K.sz by omega, show i.toNat * K.sz + r < min q cs.length + sz by omega, show ¬ (i.toNat * K.sz + r < min q cs.length) by omega, show ¬ (r < min fo (min K.sz (cs.length - i.toNat * K.sz))) by omega, show r < min fo (min K.sz (cs.length - i.toNat * K.sz)) + sz by omega,
        show i.toNat * K.sz + r - min q cs.length = r - min fo (min K.sz (cs.length - i.toNat * K.sz)) by omega]
      ·by_cases hr3 : r < K.sz
       ·simp [hr3, show ¬ (i.toNat * K.sz + r < min q cs.length + sz) by omega, show ¬ (r < min fo (min K.sz (cs.length - i.toNat * K.sz)) + sz) by omega, show fo + sz + (r - (min fo (min K.sz (cs.length - i.toNat * K.sz)) + sz)) < K.sz by omega,
         show q + sz + (i.toNat * K.sz + r - (min q cs.length + sz)) = i.toNat * K.sz + (fo + sz + (r - (min fo (min K.sz (cs.length - i.toNat * K.sz)) + sz))) by omega]
       ·simp [hr3, show ¬ (r < min fo (min K.sz (cs.length - i.toNat * K.sz)) + sz) by omega, show ¬ (fo + sz + (r - (min fo (min K.sz (cs.length - i.toNat * K.sz)) + sz)) < K.sz) by omega]
    rw [key]
    exact hr
   ·simp [hp] at hx
    have hr := hR.2 p x hx
    have key : (List.drop (p * K.sz) (cs.take q ++ vs ++ cs.drop (q + sz))).take K.sz = (cs.drop (p * K.sz)).take K.sz := by
     have hcase : p * K.sz + K.sz ≤ i.toNat * K.sz ∨ i.toNat * K.sz + K.sz ≤ p * K.sz := by
      rcases Nat.lt_or_gt_of_ne hp with h | h
      ·right; rw [← Nat.succ_mul]; exact Nat.mul_le_mul_right _ h
      ·left; rw [← Nat.succ_mul]; exact Nat.mul_le_mul_right _ h
     apply List.ext_getElem?
     intro r
     simp only [List.getElem?_take, List.getElem?_drop, List.getElem?_append, List.length_take, List.length_append, hvs]
     by_cases hr1 : r < K.sz
     ·rcases hcase with hc1 | hc1
      ·simp [hr1, show p * K.sz + r < min q cs.length + sz by omega, show p * K.sz + r < min q cs.length by omega, show p * K.sz + r < q by omega]
      ·simp [hr1, show ¬ (p * K.sz + r < min q cs.length + sz) by omega, show q + sz + (p * K.sz + r - (min q cs.length + sz)) = p * K.sz + r by omega]
     ·simp [hr1]
    rw [key]
    exact hr
theorem e_storeH [Inhabited α] (hw : Ok E I O w) (hf : Fr n L a) {t : TypeId} {x y : Operand} {v : Value} {q : Nat} (hx : ev L x = some (.pointer (some (hd v q)))) {u : Value} (hy : ev L y = some u) {sz by_ : Nat} {ag : Bool} {z : List Value} (ht : tyD P t = some (ag, sz, by_, z))
  (j : Nat) {e m : Nat} {cs : List Value} {xs : List α} (hO : O[j]? = some (.row v e K.sz m cs)) (hR : RowR K I cs xs) {i : Int} {fo : Nat} (hi : 0 ≤ i ∧ i < xs.length) (hq : q = i.toNat * K.sz + fo) {vs : List Value} (hv : u.cells = ⟨vs⟩) (hvs : vs.length = sz) (h1 : ∀ u ∈ vs, u.oneCell' = true) (hfit : fo + sz ≤ K.sz)
  {x' : α} (hx' : ∀ c, K.rel I (gt xs i) c → K.rel I x' (c.take fo ++ vs ++ c.drop (fo + sz))) :
  ∃ w' cs', (∀ (ty : TypeId) (pos : String) (aft : Array Edge) (gd : Option (Nat × Bool)), (execOp a.eval (⟨none, .store t x y, ty, pos, aft, gd⟩ : Oper)).run P w = .ok .skip w') ∧ Ok E I (O.set j (.row v e K.sz m cs')) w' ∧ RowR K I cs' (xs.set i.toNat x') := by
 obtain ⟨w', cs', hrun, hok, hrr⟩ := row_store (P := P) hw hO hR hi ht hv hvs h1 hfit hx'
 rw [← hq] at hrun
 exact ⟨w', cs', fun _ _ _ _ => by simp [execOp, Instr.storeAt, hf.ev hx, hf.ev hy, Instr.sureAddr, hrun], hok, hrr⟩

/-- append -/
theorem rd_cells {v : Value} {xs : List α} (hR : Rd K I w v xs) : (xs = [] ∧ ∃ A c, v = .slice A 0 c) ∨ ∃ ad c news, v = .slice (some ad) xs.length c ∧ RowR K I news xs ∧ ∀ j u, news[j]? = some u → w.cell? (ad.add j) = some u := by
 obtain ⟨-, A, c, rfl, h | ⟨b, off, cs, e', fr, rfl, hb, hr⟩⟩ := hR
 ·subst h; exact .inl ⟨rfl, A, c, rfl⟩
 ·by_cases hx : xs = []
  ·subst hx; exact .inl ⟨rfl, _, c, rfl⟩
  ·right
   refine ⟨_, c, (cs.drop off).take (xs.length * K.sz), rfl, ⟨?_, ?_⟩, ?_⟩
   ·have hl : 0 < xs.length := List.length_pos_iff.2 hx
    have := K.len (hr (xs.length - 1) _ (List.getElem?_eq_getElem (by omega)))
    have hp := K.pos
    rw [List.length_take, List.length_drop] at this
    have h3 : (xs.length - 1) * K.sz + K.sz = xs.length * K.sz := by rw [← Nat.succ_mul]; congr 1; omega
    simp only [List.length_take, List.length_drop]
    omega
   ·intro i x hx'
    have hi : i < xs.length := (List.getElem?_eq_some_iff.1 hx').1
    have hle : i * K.sz + K.sz ≤ xs.length * K.sz := by rw [← Nat.succ_mul]; exact Nat.mul_le_mul_right _ hi
    rw [List.drop_take, List.drop_drop, List.take_take, Nat.min_eq_left (by omega)]
    exact hr i x hx'
   ·intro j u hu
    rw [add_lit, cell_blk hb]
    rw [List.getElem?_take, List.getElem?_drop] at hu
    split at hu
    ·exact hu
    ·cases hu
theorem run_append_none {t e ty : Nat} {i : TypeInfo} (hu : P.underlying t = some (.slice e)) (hi : P.info? e = some i) {v : Value} {m : Nat} {cs : List Value} {sz : Nat} (hown : w.ownsRow 0 e sz v m cs) (A : Option Addr) (c : Nat) :
  (Builtin.append_ #[t, t] ty #[v, .slice A 0 c]).run P w = .ok v w := by
 rcases hown.2 with ⟨rfl, rfl⟩ | ⟨g, cap, cur, rfl, _, _, hnc, _⟩
 ·cases A <;> simp [Builtin.append_, run_underlying hu, sizeOf, typeInfo, hi, Builtin.lenOf, Builtin.firstCells, loadCells, loadCellsFrom]
 ·cases A <;> simp [Builtin.append_, run_underlying hu, sizeOf, typeInfo, hi, Builtin.lenOf, Builtin.firstCells, hnc, storeCells, loadCells, loadCellsFrom]
theorem e_append (hw : Ok E I O w) (hf : Fr n L a) {s x : Operand} {t e by_ : Nat} {ag : Bool} {z : List Value} (ht : elD P t = some (none, e, K.sz)) (hte : tyD P e = some (ag, K.sz, by_, z)) (hzl : z.length = K.sz) (hby : by_ ≤ 512)
  (j : Nat) {v vx : Value} {m : Nat} {cs : List Value} {xs ys : List α} (hs : ev L s = some v) (hx : ev L x = some vx) (hO : O[j]? = some (.row v e K.sz m cs)) (hR : RowR K I cs xs) (hY : Rd K I w vx ys) (hb : xs.length + ys.length ≤ 274877906944) :
  ∃ w' v' m' cs', (∀ (d : Nat) (pos : String) (aft : Array Edge) (gd : Option (Nat × Bool)), (execOp a.eval (⟨some d, .call { callee := .builtin .append, args := #[s, x], argTypes := #[t, t] }, ty, pos, aft, gd⟩ : Oper)).run P w = .ok (.value v') w') ∧ Ok E I (O.set j (.row v' e K.sz m' cs')) w' ∧ RowR K I cs' (xs ++ ys) := by
 obtain ⟨it, hu, hi1, hi2⟩ := el_slice ht
 obtain ⟨it', zv, hi1', hsz, hbb, hz, hzc⟩ := ty_info hte
 rw [hi1] at hi1'
 cases hi1'
 have hm := row_len hw hO hR
 have hown := row_form hw hO
 rcases rd_cells hY with ⟨rfl, A, c, rfl⟩ | ⟨ad, c, news, rfl, hN, hcell⟩
 ·have hrun := run_append_none (P := P) (ty := ty) hu hi1 hown A c
  refine ⟨w, v, m, cs, ?_, ?_, by simpa using hR⟩
  ·intro _ _ _ _; simp [execOp, resolve, invoke, builtin, hf.ev hs, hf.ev hx, hrun]
  ·have : O.set j (.row v e K.sz m cs) = O := by
    apply List.ext_getElem?
    intro q
    rw [List.getElem?_set]
    split
    ·rename_i e; subst e
     split
     ·exact hO.symm
     ·rename_i h; rw [List.getElem?_eq_none (by omega)]
    ·rfl
   rw [this]
   exact hw
 ·have h63 : m + ys.length ≤ maxLen := by simp only [maxLen]; omega
  have hbytes : (m + ys.length) * by_ ≤ 140737488355328 := by
   rw [hm]
   calc (xs.length + ys.length) * by_ ≤ 274877906944 * 512 := Nat.mul_le_mul hb hby
    _ = 140737488355328 := rfl
  have hzs : zv.cells.size = K.sz := by simp [hzc, hzl]
  rcases hown.2 with ⟨rfl, h0⟩ | ⟨g, cap, cur, rfl, hbg, hg', hnc, hcm, hcs, htk⟩
  ·have hcs0 : cs = [] := List.eq_nil_of_length_eq_zero (by rw [hown.1, h0]; simp)
   obtain ⟨v', w', hrun, hown', hg, -⟩ := run_append_own (P := P) w w.heap.size t ty e it zv K.sz by_ hu hi1 hz hi2 hbb hzs K.pos (.slice none 0 0) m cs ⟨hown.1, .inl ⟨rfl, h0⟩⟩ ad ys.length c news (by rw [hN.1]) hcell hN.one h63 hbytes (Nat.le_refl _)
   refine ⟨w', v', m + ys.length, cs ++ news, ?_, ?_, hR.append hN⟩
   ·intro _ _ _ _; simp [execOp, resolve, invoke, builtin, hf.ev hs, hf.ev hx, hrun]
   ·refine hw.step hO hg ?_ ?_
    ·obtain ⟨q1, q2⟩ := hown'
     refine ⟨q1, ?_⟩
     rcases q2 with q2 | ⟨g, cap, cur, e1, e2, e3⟩
     ·exact .inl q2
     ·exact .inr ⟨g, cap, cur, e1, Nat.zero_le _, e3⟩
    ·intro b hb'
     right
     exact (World.ownsRow.lt hown' b hb').1
  ·by_cases hroom : m + ys.length ≤ cap
   ·obtain ⟨w', hrun, hown', hg⟩ := run_append_fits (P := P) w 0 t ty e it K.sz hu hi1 hi2 g m cap cs hown ad ys.length c news (by rw [hN.1]) hcell hN.one hroom
    refine ⟨w', .slice (some ⟨g, 0, none⟩) (m + ys.length) cap, m + ys.length, cs ++ news, ?_, ?_, hR.append hN⟩
    ·intro _ _ _ _; simp [execOp, resolve, invoke, builtin, hf.ev hs, hf.ev hx, hrun]
    ·exact hw.step hO hg hown' (fun b hb' => .inl hb')
   ·have holds : ∀ j u, cs[j]? = some u → w.cell? ((⟨g, 0, none⟩ : Addr).add j) = some u := hown.cells (g := g) rfl
    have hr := run_append_grow (P := P) w t ty e it zv hu hi1 hz ⟨g, 0, none⟩ m cap cs (by rw [hi2]; exact hown.1) holds ad ys.length c news (by rw [hi2, hN.1]) hcell (by omega) (by simp only [maxLen] at h63; omega) (growslice_fits (by omega) (by rw [hbb]; exact hbytes))
    obtain ⟨v', w', hrun, hown', hg, -⟩ := run_append_own (P := P) w 0 t ty e it zv K.sz by_ hu hi1 hz hi2 hbb hzs K.pos _ m cs hown ad ys.length c news (by rw [hN.1]) hcell hN.one h63 hbytes (Nat.zero_le _)
    have hv' : v' = .slice (some ⟨w.heap.size, 0, none⟩) (m + ys.length) (grownCap w (m + ys.length) cap e) := by
     rw [hr] at hrun
     injection hrun with h1 h2
     exact h1.symm
    refine ⟨w', v', m + ys.length, cs ++ news, ?_, ?_, hR.append hN⟩
    ·intro _ _ _ _; simp [execOp, resolve, invoke, builtin, hf.ev hs, hf.ev hx, hrun]
    ·refine hw.step hO hg hown' ?_
     intro b hb'
     right
     rw [hv'] at hb'
     have : w.heap.size = b := by simpa [Atom.foot, Value.ownBlock] using hb'
     omega
end
end Go.Lf
