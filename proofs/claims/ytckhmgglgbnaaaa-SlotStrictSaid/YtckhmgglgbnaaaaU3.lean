/- More operations: slices made, cut and joined, arrays, structs that are built, results in memory; a cut inside a list of operations. -/
import Derived.Test.YtckhmgglgbnaaaaU2
set_option linter.unusedVariables false
set_option linter.unusedSimpArgs false
namespace Go.Lf
open Go

/-! ### Filling -/
theorem foldl_set (vs : List Value) : ∀ (s off : Nat) (pre post : List Value), pre.length = off + s → vs.length ≤ post.length →
  (vs.zipIdx s).foldl (fun (cs : Array Value) (p : Value × Nat) => cs.setIfInBounds (off + p.2) p.1) ⟨pre ++ post⟩ = ⟨pre ++ vs ++ post.drop vs.length⟩ := by
 induction vs with
 | nil => intro s off pre post _ _; simp
 | cons v vs ih =>
  intro s off pre post hp hl
  cases post with
  | nil => simp at hl
  | cons u post =>
   simp only [List.zipIdx_cons, List.foldl_cons]
   have h1 : (⟨pre ++ u :: post⟩ : Array Value).setIfInBounds (off + s) v = ⟨(pre ++ [v]) ++ post⟩ := by
    apply Array.ext'
    simp [Array.toList_setIfInBounds, ← hp]
   rw [h1, ih (s + 1) off (pre ++ [v]) post (by simp [hp]; omega) (by simp at hl; omega)]
   simp
theorem fill_step (place : Nat → Option (Nat × Nat)) (i off sz : Nat) (v : Value) (vs : List Value) (pre mid post : List Value) (rest : List (Nat × Value)) (hpl : place i = some (off, sz)) (hv : v.cells = ⟨vs⟩) (hl : vs.length = sz) (hpre : pre.length = off) (hmid : mid.length = sz) :
  Instr.fill place ⟨pre ++ mid ++ post⟩ ((i, v) :: rest) = Instr.fill place ⟨pre ++ vs ++ post⟩ rest := by
 simp only [Instr.fill, hpl, hv]
 have h1 : ¬ (((⟨vs⟩ : Array Value).size ≠ sz || decide (off + (⟨vs⟩ : Array Value).size > (⟨pre ++ mid ++ post⟩ : Array Value).size)) = true) := by
  simp [hl, hpre, hmid]
 rw [if_neg h1]
 have h2 := foldl_set vs 0 off pre (mid ++ post) (by simpa using hpre) (by simp; omega)
 have h3 : (⟨vs⟩ : Array Value).zipIdx.foldl (fun (cs : Array Value) (p : Value × Nat) => cs.setIfInBounds (off + p.2) p.1) ⟨pre ++ mid ++ post⟩ = ⟨pre ++ vs ++ post⟩ := by
  rw [← Array.foldl_toList, Array.toList_zipIdx, List.append_assoc]
  rw [h2]
  simp [hl, ← hmid]
 rw [← h3]
theorem fill_row (sz : Nat) : ∀ (vs : List Value) (s : Nat) (pre post : List Value) (ccs : List (List Value)), vs.map Value.cells = ccs.map (fun c => (⟨c⟩ : Array Value)) → (∀ c ∈ ccs, c.length = sz) → pre.length = s * sz → post.length = vs.length * sz →
  Instr.fill (fun i => some (i * sz, sz)) ⟨pre ++ post⟩ ((List.range' s vs.length).zip vs) = some ⟨pre ++ ccs.flatten⟩ := by
 intro vs
 induction vs with
 | nil => intro s pre post ccs h _ _ hp; cases ccs <;> simp_all [Instr.fill]
 | cons v vs ih =>
  intro s pre post ccs h hc hpre hpost
  cases ccs with
  | nil => simp at h
  | cons c ccs =>
   simp only [List.map_cons, List.cons.injEq] at h
   simp only [List.length_cons, List.range'_succ, List.zip_cons_cons]
   have hl : post.length = sz + vs.length * sz := by rw [hpost, List.length_cons, Nat.succ_mul, Nat.add_comm]
   have hsplit : pre ++ post = pre ++ post.take sz ++ post.drop sz := by simp
   rw [hsplit, fill_step _ s (s * sz) sz v c pre (post.take sz) (post.drop sz) _ rfl h.1 (hc c (by simp)) hpre (by simp; omega)]
   rw [ih (s + 1) (pre ++ c) (post.drop sz) ccs h.2 (fun c' hc' => hc c' (by simp [hc'])) (by simp [hpre, hc c (by simp), Nat.succ_mul]) (by simp; omega)]
   simp

/-- Several elements' cells. -/
def Rels {α : Type} (K : EK α) (I : IH) : List (List Value) → List α → Prop
 | [], [] => True
 | c :: cs, x :: xs => K.rel I x c ∧ Rels K I cs xs
 | _, _ => False
theorem Rels.row {α : Type} {K : EK α} {I : IH} : ∀ {ccs : List (List Value)} {xs : List α}, Rels K I ccs xs → RowR K I ccs.flatten xs ∧ ccs.length = xs.length ∧ ∀ c ∈ ccs, c.length = K.sz
 | [], [], _ => ⟨RowR.nil, rfl, by simp⟩
 | c :: cs, x :: xs, h => by
  obtain ⟨h1, h2, h3⟩ := Rels.row h.2
  refine ⟨?_, by simp [h2], ?_⟩
  ·have := (RowR.single h.1).append h1
   simpa using this
  ·intro c' hc'
   rcases List.mem_cons.1 hc' with rfl | hc'
   ·exact K.len h.1
   ·exact h3 c' hc'

section
variable {α : Type} {K : EK α} {I J : IH} {w : World}
variable {P : Program} {ops : Array Oper} {Q : Exit → Act → World → Prop} {rest : List Oper} {a : Act} {E : World} {O : List Atom} {n : Nat} {L : List (Nat × Value)} {ty : TypeId} {pos : String} {aft : Array Edge} {d : Nat} {gd : Option (Nat × Bool)}

theorem row_new (hw : Ok E I O w) {e sz m : Nat} (cs : List Value) (hl : cs.length = m * sz) (hm : m ≤ maxLen) : Ok E I (.row (.slice (some ⟨w.heap.size, 0, none⟩) m m) e sz m cs :: O) { w with heap := w.heap.push (.cells ⟨cs⟩ e) } := by
 refine hw.new (World.grownBy_alloc w _ none) ?_ ?_
 ·refine ⟨hl, .inr ⟨w.heap.size, m, ⟨cs⟩, rfl, Nat.zero_le _, heap_alloc_new w _, Nat.le_refl _, hm, hl, ?_⟩⟩
  show List.take (m * sz) cs = cs
  exact List.take_of_length_le (by omega)
 ·intro b hb
  have : w.heap.size = b := by simpa [Atom.foot, Value.ownBlock] using hb
  omega
theorem zip_map (l : List (Nat × Operand)) (f : Operand → Value) : l.map (fun p => (p.1, f p.2)) = (l.map (·.1)).zip ((l.map (·.2)).map f) := by
 induction l with
 | nil => rfl
 | cons x l ih => simp [ih]
theorem e_buildSlice (hw : Ok E I O w) (hf : Fr n L a) {t m e : Nat} {parts : List (Nat × Operand)} (ht : elD P t = some (none, e, K.sz)) {by_ : Nat} {ag : Bool} {z : List Value} (hte : tyD P e = some (ag, K.sz, by_, z)) (hzl : z.length = K.sz) (hp : parts.map (·.1) = List.range m) {vs : List Value} (hv : evs L (parts.map (·.2)) = some vs)
  {ccs : List (List Value)} (hcc : vs.map Value.cells = ccs.map (fun c => (⟨c⟩ : Array Value))) {xs : List α} (hR : Rels K I ccs xs) (hm : Nat.ble (m * K.sz) 16777216 = true) :
  ∃ w' v, (∀ (d : Nat) (ty : TypeId) (pos : String) (aft : Array Edge) (gd : Option (Nat × Bool)), (execOp a.eval (⟨some d, .buildSlice t m parts.toArray, ty, pos, aft, gd⟩ : Oper)).run P w = .ok (.value v) w') ∧ Ok E I (.row v e K.sz m ccs.flatten :: O) w' ∧ RowR K I ccs.flatten xs := by
 obtain ⟨it, hu, hi1, hi2⟩ := el_slice ht
 obtain ⟨it', zv, hi1', hsz, hbb, hz, hzc⟩ := ty_info hte
 rw [hi1] at hi1'
 cases hi1'
 obtain ⟨hrow, hlen, hcl⟩ := hR.row
 have hvl : vs.length = m := by
  have h1 := congrArg List.length hp
  have h2 := congrArg List.length (hf.evs hv)
  simp at h1 h2
  omega
 have hxl : xs.length = m := by
  have := congrArg List.length hcc
  simp at this
  omega
 have hmle : m * K.sz ≤ 16777216 := by simpa [Nat.ble_eq] using hm
 have hml : m ≤ 16777216 := Nat.le_trans (Nat.le_mul_of_pos_right _ K.pos) hmle
 refine ⟨{ w with heap := w.heap.push (.cells ⟨ccs.flatten⟩ e) }, .slice (some ⟨w.heap.size, 0, none⟩) m m, ?_, row_new hw ccs.flatten (by rw [hrow.1, hxl]) (by simp only [maxLen]; omega), hrow⟩
 generalize hg : (Array.range (m * K.sz)).map (fun q => z.toArray[q % z.toArray.size]!) = Z
 have hZl : Z.toList.length = vs.length * K.sz := by rw [← hg, hvl]; simp
 have hfill := fill_row K.sz vs 0 [] Z.toList ccs hcc hcl (by simp) hZl
 simp only [List.nil_append] at hfill
 have hfill' : Instr.fill (fun i => some (i * K.sz, K.sz)) Z (parts.map fun x => (x.1, a.eval x.2)) = some ⟨ccs.flatten⟩ := by
  rw [zip_map, hp, hf.evs hv, ← hvl, List.range_eq_range']
  simpa using hfill
 have h24 : ¬ (m * K.sz > 2 ^ 24) := by omega
 by_cases h0 : m * K.sz = 0
 ·have hZ0 : Z = #[] := by
   rw [← hg, h0]; simp
  have hm0 : m = 0 := by
   rcases Nat.mul_eq_zero.1 h0 with h | h
   ·exact h
   ·have := K.pos; omega
  subst hm0
  rw [hZ0] at hfill'
  have hE : (Array.map (fun (_ : Nat) => (default : Value)) (Array.range 0)) = #[] := by simp
  intro _ _ _ _ _
  simp [execOp, Instr.buildSlice, run_underlying hu, sizeOf, typeInfo, hi1, hi2, hE, hfill', newRow]
 ·have hz' : (zeroValue e).run P w = .ok zv w := by simp [zeroValue, typeInfo, hi1, hz]
  have hzs : zv.cells = z.toArray := hzc
  intro _ _ _ _ _
  simp only [execOp, Instr.buildSlice, Sem.run_bind, run_underlying hu, Result.andThen_ok, sizeOf, typeInfo, run_program, hi1, hi2, Sem.run_pure, if_neg h24, if_neg h0, hz', hzs]
  rw [hg]
  simp [hfill', newRow]
/-- make([]T, n) -/
theorem rows_replicate {x : α} {c : List Value} (h : K.rel I x c) : ∀ m, RowR K I (List.replicate m c).flatten (List.replicate m x)
 | 0 => by simpa using RowR.nil
 | m + 1 => by
  have := (RowR.single h).append (rows_replicate h m)
  simpa [List.replicate_succ] using this
theorem made_flat (z : List Value) (hz : 0 < z.length) : ∀ m, (madeCells z.toArray (m * z.length)).toList = (List.replicate m z).flatten := by
 intro m
 induction m with
 | zero => simp [madeCells]
 | succ m ih =>
  rw [List.replicate_succ', List.flatten_append, ← ih]
  apply List.ext_getElem?
  intro i
  simp only [madeCells, Array.toList_map, Array.toList_range, List.getElem?_map, List.getElem?_append, List.length_map, List.length_range, List.flatten_cons, List.flatten_nil, List.append_nil]
  by_cases h1 : i < m * z.length
  ·simp [h1, List.getElem?_range (show i < (m + 1) * z.length by rw [Nat.succ_mul]; omega), List.getElem?_range h1]
  ·by_cases h2 : i < (m + 1) * z.length
   ·rw [if_neg h1, List.getElem?_range h2]
    have h3 : i - m * z.length < z.length := by rw [Nat.succ_mul] at h2; omega
    have h4 : i % z.length = i - m * z.length := by
     have h5 : i = (i - m * z.length) + z.length * m := by rw [Nat.mul_comm z.length m]; omega
     conv => lhs; rw [h5]
     rw [Nat.add_mul_mod_self_left, Nat.mod_eq_of_lt h3]
    simp [h4, h3, List.getElem?_eq_getElem h3]
   ·rw [if_neg h1]
    have h3 : ¬ (i - m * z.length < z.length) := by rw [Nat.succ_mul] at h2; omega
    rw [List.getElem?_eq_none (by simp; omega), List.getElem?_eq_none (by omega)]
    rfl
theorem e_makeSlice (hw : Ok E I O w) (hf : Fr n L a) {t e by_ : Nat} {ag : Bool} {z : List Value} {l c : Operand} (ht : elD P t = some (none, e, K.sz)) (hte : tyD P e = some (ag, K.sz, by_, z)) (hzl : z.length = K.sz) (hby : by_ ≤ 512) {kl kc : IntKind} {N : Int} (hl : ev L l = some (.int kl N)) (hc : ev L c = some (.int kc N))
  {x : α} (hx : ∀ I, K.rel I x z) (hN : 0 ≤ N ∧ N ≤ 274877906944) :
  ∃ w' v cs, (∀ (d : Nat) (ty : TypeId) (pos : String) (aft : Array Edge) (gd : Option (Nat × Bool)), (execOp a.eval (⟨some d, .makeSlice t l c, ty, pos, aft, gd⟩ : Oper)).run P w = .ok (.value v) w') ∧ Ok E I (.row v e K.sz N.toNat cs :: O) w' ∧ RowR K I cs (List.replicate N.toNat x) := by
 obtain ⟨it, hu, hi1, hi2⟩ := el_slice ht
 obtain ⟨it', zv, hi1', hsz, hbb, hz, hzc⟩ := ty_info hte
 rw [hi1] at hi1'
 cases hi1'
 have hNN : ((N.toNat : Nat) : Int) = N := by omega
 have hle : N.toNat ≤ 274877906944 := by omega
 have hb1 : it.bytes * N.toNat ≤ 281474976710656 := by
  rw [hbb]
  calc by_ * N.toNat ≤ 512 * 274877906944 := Nat.mul_le_mul hby hle
   _ ≤ 281474976710656 := by decide
 obtain ⟨w', hrun, hown, hg⟩ := run_make_full (P := P) w w.heap.size t e it zv K.sz hu hi1 hz hi2 kl kc N.toNat hb1 (by simp only [maxLen]; omega) (Nat.le_refl _)
 rw [hNN] at hrun
 have hcells : (madeCells zv.cells (N.toNat * K.sz)).toList = (List.replicate N.toNat z).flatten := by
  rw [hzc, ← hzl]
  exact made_flat z (by rw [hzl]; exact K.pos) _
 rw [hcells] at hown
 refine ⟨w', .slice (some ⟨w.heap.size, 0, none⟩) N.toNat N.toNat, (List.replicate N.toNat z).flatten, ?_, ?_, rows_replicate (hx I) _⟩
 ·intro _ _ _ _ _; simp [execOp, hf.ev hl, hf.ev hc, hrun]
 ·refine hw.new hg ?_ ?_
  ·obtain ⟨q1, q2⟩ := hown
   refine ⟨q1, ?_⟩
   rcases q2 with q2 | ⟨g, cap, cur, e1, e2, e3⟩
   ·exact .inl q2
   ·exact .inr ⟨g, cap, cur, e1, Nat.zero_le _, e3⟩
  ·intro b hb
   have : w.heap.size = b := by simpa [Atom.foot, Value.ownBlock] using hb
   omega

/-! Cuts of strings -/
def sub (s : ByteArray) (lo hi : Int) : ByteArray := s.extract lo.toNat hi.toNat
theorem r_sliceS (hf : Fr n L a) {t : TypeId} {x l h : Operand} {s : ByteArray} (ht : P.underlying t = some .string) (hx : ev L x = some (.string s)) {kl kh : IntKind} {lo hi : Int} (hl : ev L l = some (.int kl lo)) (hh : ev L h = some (.int kh hi)) (hb : 0 ≤ lo ∧ lo ≤ hi ∧ hi ≤ s.size) :
  (execOp a.eval (⟨some d, .slice t x (some l) (some h) none, ty, pos, aft, gd⟩ : Oper)).run P w = .ok (.value (.string (sub s lo hi))) w := by
 have h1 : 0 ≤ hi ∧ hi ≤ s.size := by omega
 have h2 : 0 ≤ lo ∧ lo ≤ hi := by omega
 have h3 : max hi 0 = hi := by omega
 simp [execOp, Instr.sliceAt, run_underlying ht, hf.ev hx, hf.ev hl, hf.ev hh, Instr.slice, Instr.sliceBounds, run_sliceBound_if, h1, h2, h3, sub]
theorem r_sliceSl (hf : Fr n L a) {t : TypeId} {x l : Operand} {s : ByteArray} (ht : P.underlying t = some .string) (hx : ev L x = some (.string s)) {kl : IntKind} {lo : Int} (hl : ev L l = some (.int kl lo)) (hb : 0 ≤ lo ∧ lo ≤ (s.size : Int)) :
  (execOp a.eval (⟨some d, .slice t x (some l) none none, ty, pos, aft, gd⟩ : Oper)).run P w = .ok (.value (.string (sub s lo (s.size : Int)))) w := by
 simp [execOp, Instr.sliceAt, run_underlying ht, hf.ev hx, hf.ev hl, Instr.slice, Instr.sliceBounds, run_sliceBound_if, hb, sub]
theorem r_sliceSh (hf : Fr n L a) {t : TypeId} {x h : Operand} {s : ByteArray} (ht : P.underlying t = some .string) (hx : ev L x = some (.string s)) {kh : IntKind} {hi : Int} (hh : ev L h = some (.int kh hi)) (hb : 0 ≤ hi ∧ hi ≤ (s.size : Int)) :
  (execOp a.eval (⟨some d, .slice t x none (some h) none, ty, pos, aft, gd⟩ : Oper)).run P w = .ok (.value (.string (sub s 0 hi))) w := by
 simp [execOp, Instr.sliceAt, run_underlying ht, hf.ev hx, hf.ev hh, Instr.slice, Instr.sliceBounds, run_sliceBound_if, hb, sub]
/-- Cuts of immutable slices. -/
def cut {α : Type} (xs : List α) (lo hi : Int) : List α := (xs.drop lo.toNat).take (hi - lo).toNat
/-! Arrays -/
def arrC {m : Nat} (k : IntKind) (v : Vector Int m) : List Value := v.toList.map (Value.int k)
def vg {m : Nat} (v : Vector Int m) (i : Int) : Int := v.toList.getD i.toNat 0
def vset {m : Nat} (v : Vector Int m) (i x : Int) : Vector Int m := v.setIfInBounds i.toNat x
theorem arrC_len {m : Nat} (k : IntKind) (v : Vector Int m) : (arrC k v).length = m := by simp [arrC]
theorem arrC_get {m : Nat} (k : IntKind) (v : Vector Int m) {i : Int} (hi : 0 ≤ i ∧ i < m) : (arrC k v)[i.toNat]? = some (.int k (vg v i)) := by
 have : i.toNat < m := by omega
 simp [arrC, vg, List.getElem?_eq_getElem (show i.toNat < v.toList.length by simpa using this), this]
theorem arrC_one {m : Nat} (k : IntKind) (v : Vector Int m) : ∀ u ∈ arrC k v, u.oneCell' = true := by
 intro u hu
 simp [arrC] at hu
 obtain ⟨x, -, rfl⟩ := hu
 rfl
theorem arrC_set {m : Nat} (k : IntKind) (v : Vector Int m) {i : Int} (hi : 0 ≤ i ∧ i < m) (x : Int) : (arrC k v).take i.toNat ++ [.int k x] ++ (arrC k v).drop (i.toNat + 1) = arrC k (vset v i x) := by
 have hl : i.toNat < m := by omega
 have h1 : arrC k (vset v i x) = (arrC k v).set i.toNat (.int k x) := by
  simp [arrC, vset, List.map_set]
 rw [h1, List.set_eq_take_append_cons_drop, if_pos (by rw [arrC_len]; exact hl)]
 simp
theorem r_indexArr (hf : Fr n L a) {x y : Operand} {t e m es by_ : Nat} {z : List Value} {kk ik : IntKind} {v : Vector Int m} {i : Int} (ht : elD P t = some (some m, e, 1)) (hte : tyD P e = some (false, es, by_, z)) (hx : ev L x = some (.agg ⟨arrC kk v⟩)) (hy : ev L y = some (.int ik i)) (hi : 0 ≤ i ∧ i < (m : Int)) :
  (execOp a.eval (⟨some d, .index t x y, ty, pos, aft, gd⟩ : Oper)).run P w = .ok (.value (.int kk (vg v i))) w := by
 obtain ⟨it, hu, hi1, hi2⟩ := el_array ht
 have h1 := arrC_get kk v hi
 simp [execOp, Instr.index, asIntOf, run_underlying hu, hf.ev hx, hf.ev hy, hi, sizeOf, typeInfo, hi1, hi2, part, ty_isAgg w hte, h1]
/-! Structs that are built -/
def ones : List Value → Prop
 | [] => True
 | v :: r => v.oneCell' = true ∧ ones r
def setAll (ps : List (Nat × Nat)) : List Value → List (Nat × Value) → Option (List Value)
 | cs, [] => some cs
 | cs, (i, v) :: r => match ps[i]? with
  | some (off, 1) => setAll ps (cs.set off v) r
  | _ => none
theorem fill_setAll (ps : List (Nat × Nat)) : ∀ (parts : List (Nat × Value)) (cs out : List Value), ones (parts.map (·.2)) → (∀ p ∈ ps, p.1 + p.2 ≤ cs.length) → setAll ps cs parts = some out → Instr.fill (fun x => ps[x]?) ⟨cs⟩ parts = some ⟨out⟩ := by
 intro parts
 induction parts with
 | nil => intro cs out _ _ h; simp [setAll] at h; subst h; rfl
 | cons p r ih =>
  obtain ⟨i, v⟩ := p
  intro cs out h1 hp h
  simp only [setAll] at h
  split at h
  ·rename_i off hpi
   have hv := one_cells h1.1
   have hfit : off + 1 ≤ cs.length := hp (off, 1) (List.mem_of_getElem? hpi)
   have := ih (cs.set off v) out h1.2 (by simpa using hp) h
   have hsplit : cs = cs.take off ++ [cs[off]'(by omega)] ++ cs.drop (off + 1) := by simp
   have h3 := fill_step (fun x => ps[x]?) i off 1 v [v] (cs.take off) [cs[off]'(by omega)] (cs.drop (off + 1)) r hpi hv rfl (by simp; omega) rfl
   rw [← hsplit] at h3
   rw [h3]
   have h4 : cs.take off ++ [v] ++ cs.drop (off + 1) = cs.set off v := by
    rw [List.set_eq_take_append_cons_drop, if_pos (by omega)]; simp
   rw [h4]
   exact this
  ·cases h
theorem bd_built {t : Nat} {ps : List (Nat × Nat)} {z : List Value} (h : bdD P t = some (ps, z)) (parts : List (Nat × Value)) : P.built t parts = Instr.fill (fun x => ps[x]?) ⟨z⟩ parts := by
 unfold bdD at h
 cases hu : P.underlying t with
 | none => simp [hu] at h
 | some dd =>
  cases dd <;> simp only [hu, Option.bind_some, reduceCtorEq] at h
  rename_i fs
  cases hi : P.info? t with
  | none => simp [hi] at h
  | some it =>
   cases hz : it.zero with
   | none => simp [hi, hz] at h
   | some zv =>
    simp [hi, hz] at h
    obtain ⟨ps', hps, h1, h2⟩ := h
    subst h1
    simp only [Program.built, hi, hu, hz, hps]
    rw [← h2]
    simp
theorem r_build (hf : Fr n L a) {t : Nat} {parts : List (Nat × Operand)} {ps : List (Nat × Nat)} {z : List Value} (ht : bdD P t = some (ps, z)) {vs : List Value} (hv : evs L (parts.map (·.2)) = some vs) (h1 : ones vs) (hp : ∀ p ∈ ps, p.1 + p.2 ≤ z.length) {out : List Value} (hs : setAll ps z ((parts.map (·.1)).zip vs) = some out) :
  (execOp a.eval (⟨some d, .build t parts.toArray, ty, pos, aft, gd⟩ : Oper)).run P w = .ok (.value (.agg ⟨out⟩)) w := by
 have hparts : (parts.toArray.map fun (i, x) => (i, a.eval x)).toList = (parts.map (·.1)).zip vs := by
  have h1 : (parts.toArray.map fun (i, x) => (i, a.eval x)).toList = parts.map (fun p => (p.1, a.eval p.2)) := by simp
  rw [h1, zip_map, hf.evs hv]
 have hb : P.built t (parts.toArray.map fun (i, x) => (i, a.eval x)).toList = some ⟨out⟩ := by
  rw [hparts, bd_built ht]
  refine fill_setAll ps _ z out ?_ hp hs
  have : ((parts.map (·.1)).zip vs).map (·.2) = vs := by
   rw [List.map_snd_zip]
   have := congrArg List.length (hf.evs hv)
   simp at this
   simp [this]
  rw [this]
  exact h1
 simp only [execOp, Sem.run_bind, run_build w t _ ⟨out⟩ hb, Result.andThen_ok, Sem.run_pure]

/-! Bytes that become a string -/
theorem r_convB (hf : Fr n L a) {s t e : TypeId} {x : Operand} {v : Value} {xs : List Int} (hs : P.underlying s = some (.slice e)) (he : P.underlying e = some (.int .u8)) (ht : P.underlying t = some .string) (hx : ev L x = some v) (hR : Rd (ekI .u8) I w v xs) :
  (execOp a.eval (⟨some d, .convert s t x, ty, pos, aft, gd⟩ : Oper)).run P w = .ok (.value (.string (strOfNums xs))) w := by
 obtain ⟨-, A, c, rfl, h | ⟨b, off, cs, e', fr, rfl, hb, hr⟩⟩ := hR
 ·subst h
  cases A with
  | none => simp [execOp, hf.ev hx, run_convert_bytes_nil w s e hs he _ _ t ht, strOfNums]; rfl
  | some ad =>
   have := run_convert_bytes_arg (P := P) w s e hs he ad.block ad.off 0 c [] rfl (fun i hi => by omega) t ht
   simp [execOp, hf.ev hx, convert, run_underlying hs, run_underlying ht, run_underlying he, Conv.bytesToString, loadCells, loadCellsFrom, strOfNums]
   rfl
 ·have := run_convert_bytes_arg (P := P) w s e hs he b off xs.length c xs rfl (fun i hi => by
   rw [cell_blk hb]
   have h1 := hr i xs[i] (List.getElem?_eq_getElem hi)
   have h1' : List.take 1 (cs.drop (off + i * 1)) = [.int .u8 xs[i]] := h1
   rw [Nat.mul_one] at h1'
   have h2 := congrArg (fun l : List Value => l[0]?) h1'
   simp [List.getElem?_take, List.getElem?_drop] at h2
   rw [h2, List.getD_eq_getElem?_getD, List.getElem?_eq_getElem hi]
   rfl) t ht
  simp [execOp, hf.ev hx, this]
/-! Results that lie in memory -/
theorem b_retC (hw : Ok E I O w) (hf : Fr n L a) {fn : Func} {p t : Nat} (hr : fn.results = #[.cell p t]) {b off sz by_ : Nat} {z : List Value} (ht : tyD P t = some (true, sz, by_, z)) (hp : lk L p = some (.pointer (some ⟨b, off, none⟩))) (i : Nat) {cs vs : List Value} {e : TypeId} {fr : Nat × Nat} (hO : O[i]? = some (.blk b (.cells ⟨cs⟩ e fr)))
  (hc : (cs.drop off).take sz = vs) (hl : vs.length = sz) {R : Ending → World → Prop} (h : R (.returned (.agg ⟨vs⟩)) w) : bodyPost P fn R .ret a w := by
 refine ⟨hf.df, .agg ⟨vs⟩, ?_, h⟩
 have h1 := hf.at_ p _ hp
 simp [results, hr, Array.getD_eq_getD_getElem?, h1, asAddr, run_load_blkA ht (own_blk hw hO) hc hl]

/-! Cuts inside a list of operations -/
/-! An operation that is not wanted. -/
theorem o_skip {o : Oper} (hf : Fr n L a) {j g : Nat} {want b : Bool} (hg : o.guard = some (j, want)) (hj : (ops[j]?).bind (·.dst) = some g) (hb : lk L g = some (.bool b)) (hne : (b == want) = false) (hd : o.dst = some d) (hd' : Nat.blt d n = true)
  (k : ∀ a, Fr n ((d, undef) :: L) a → wpList P ops Q rest a w) : wpList P ops Q (o :: rest) a w := by
 unfold wpList
 have : Region.wanted o (yielded ops a.tmps) = false := by
  simp only [Region.wanted, hg, yielded, hj, Option.bind_some, hf.at_ g _ hb]
  cases b <;> cases want <;> simp_all
 rw [this, if_neg (by simp), hd]
 exact k _ (hf.put hd' _)
/-- One that is: its guard falls away. -/
theorem o_want {dst : Option Tmp} {op : Op} (hf : Fr n L a) {j g : Nat} {b : Bool} (hj : (ops[j]?).bind (·.dst) = some g) (hb : lk L g = some (.bool b)) (k : wpList P ops Q (⟨dst, op, ty, pos, aft, none⟩ :: rest) a w) : wpList P ops Q (⟨dst, op, ty, pos, aft, some (j, b)⟩ :: rest) a w := by
 unfold wpList at k ⊢
 have h1 : Region.wanted (⟨dst, op, ty, pos, aft, some (j, b)⟩ : Oper) (yielded ops a.tmps) = true := by
  simp [Region.wanted, yielded, hj, hf.at_ g _ hb]
 have h2 : Region.wanted (⟨dst, op, ty, pos, aft, none⟩ : Oper) (yielded ops a.tmps) = true := rfl
 rw [if_pos h1]
 rw [if_pos h2] at k
 exact k
end
end Go.Lf
