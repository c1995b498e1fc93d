/- Rows of Plans whose own rows grow: an outer row of bare cells, and the inner rows as atoms behind all others. -/
import Derived.Test.YtckhmgglgbnaaaaZT
set_option linter.unusedVariables false
set_option linter.unusedSimpArgs false
namespace Go.Lf
open Go
/-- An element that is told by its cells alone. -/
def ekR (n : Nat) (h : 0 < n) : EK (List Value) where
 sz := n
 pos := h
 rel := fun _ x cs => cs = x ∧ x.length = n ∧ ∀ u ∈ x, u.oneCell' = true
 mono := fun _ h => h
 len := fun ⟨e, l, _⟩ => by rw [e]; exact l
 one := fun ⟨e, _, o⟩ => by rw [e]; exact o
def ekQ : EK (List Value) := ekR 4 (by decide)
def nilR (e : Nat) : Atom := .row (.slice none 0 0) e 1 0 []
/-- The Plans xs lie in the cells rs, their own rows are the atoms V. -/
def Nst (e : Nat) (I : IH) : List Atom → List (List Value) → List Plan → Prop
 | [], [], [] => True
 | A :: B :: V, r :: rs, x :: xs => (∃ v n cs v' n' cs', A = .row v e 1 n cs ∧ B = .row v' e 1 n' cs' ∧ r = [.string x.prefix_, .int .i64 x.top_, v, v'] ∧ RowR (ekI .i64) I cs x.nodes_ ∧ RowR (ekI .i64) I cs' x.kids_) ∧ Nst e I V rs xs
 | _, _, _ => False
theorem Nst.mono {e : Nat} {I J : IH} (hI : IH.le I J) : ∀ {V : List Atom} {rs : List (List Value)} {xs : List Plan}, Nst e I V rs xs → Nst e J V rs xs
 | [], [], [], _ => trivial
 | A :: B :: V, r :: rs, x :: xs, h => by
  obtain ⟨⟨v, n, cs, v', n', cs', h1, h2, h3, h4, h5⟩, h⟩ := h
  exact ⟨⟨v, n, cs, v', n', cs', h1, h2, h3, h4.mono hI, h5.mono hI⟩, h.mono hI⟩
theorem Nst.len {e : Nat} {I : IH} : ∀ {V : List Atom} {rs : List (List Value)} {xs : List Plan}, Nst e I V rs xs → V.length = 2 * xs.length ∧ rs.length = xs.length
 | [], [], [], _ => ⟨rfl, rfl⟩
 | A :: B :: V, r :: rs, x :: xs, h => by
  have := Nst.len h.2
  simp only [List.length_cons]
  omega
theorem Nst.gl {e : Nat} {I : IH} {V : List Atom} {rs : List (List Value)} {xs : List Plan} (h : Nst e I V rs xs) {i : Int} (hi : 0 ≤ i ∧ i < (xs.length : Int)) : 0 ≤ i ∧ i < (rs.length : Int) := by
 rw [h.len.2]; exact hi
theorem Nst.snoc {e : Nat} {I : IH} (p : ByteArray) (t : Int) : ∀ {V : List Atom} {rs : List (List Value)} {xs : List Plan}, Nst e I V rs xs → Nst e I (V ++ [nilR e, nilR e]) (rs ++ [[.string p, .int .i64 t, .slice none 0 0, .slice none 0 0]]) (xs ++ [⟨p, t, [], []⟩])
 | [], [], [], _ => ⟨⟨_, _, _, _, _, _, rfl, rfl, rfl, RowR.nil, RowR.nil⟩, trivial⟩
 | A :: B :: V, r :: rs, x :: xs, h => ⟨h.1, h.2.snoc p t⟩
/-- One of the inner rows, and what stands when it has grown. -/
theorem Nst.nodes {e : Nat} {I : IH} : ∀ {V : List Atom} {rs : List (List Value)} {xs : List Plan}, Nst e I V rs xs → ∀ {i : Nat} {x : Plan}, xs[i]? = some x →
  ∃ v n cs v', V[2 * i]? = some (.row v e 1 n cs) ∧ rs[i]? = some [.string x.prefix_, .int .i64 x.top_, v, v'] ∧ RowR (ekI .i64) I cs x.nodes_ ∧
   ∀ v2 n2 cs2 ys, RowR (ekI .i64) I cs2 ys → Nst e I (V.set (2 * i) (.row v2 e 1 n2 cs2)) (rs.set i [.string x.prefix_, .int .i64 x.top_, v2, v']) (xs.set i { x with nodes_ := ys })
 | [], [], [], _, i, x, hx => by simp at hx
 | A :: B :: V, r :: rs, y :: xs, h, 0, x, hx => by
  obtain ⟨⟨v, n, cs, v', n', cs', h1, h2, h3, h4, h5⟩, h⟩ := h
  simp at hx
  subst hx
  exact ⟨v, n, cs, v', by simp [h1], by simp [h3], h4, fun v2 n2 cs2 ys hy => ⟨⟨v2, n2, cs2, v', n', cs', rfl, h2, rfl, hy, h5⟩, h⟩⟩
 | A :: B :: V, r :: rs, y :: xs, h, i + 1, x, hx => by
  obtain ⟨v, n, cs, v', g1, g2, g3, g4⟩ := h.2.nodes (i := i) (x := x) (by simpa using hx)
  refine ⟨v, n, cs, v', by rw [show 2 * (i + 1) = 2 * i + 1 + 1 by omega]; simpa using g1, by simpa using g2, g3, fun v2 n2 cs2 ys hy => ?_⟩
  rw [show 2 * (i + 1) = 2 * i + 1 + 1 by omega]
  exact ⟨h.1, g4 v2 n2 cs2 ys hy⟩
theorem Nst.kids {e : Nat} {I : IH} : ∀ {V : List Atom} {rs : List (List Value)} {xs : List Plan}, Nst e I V rs xs → ∀ {i : Nat} {x : Plan}, xs[i]? = some x →
  ∃ v n cs v', V[2 * i + 1]? = some (.row v e 1 n cs) ∧ rs[i]? = some [.string x.prefix_, .int .i64 x.top_, v', v] ∧ RowR (ekI .i64) I cs x.kids_ ∧
   ∀ v2 n2 cs2 ys, RowR (ekI .i64) I cs2 ys → Nst e I (V.set (2 * i + 1) (.row v2 e 1 n2 cs2)) (rs.set i [.string x.prefix_, .int .i64 x.top_, v', v2]) (xs.set i { x with kids_ := ys })
 | [], [], [], _, i, x, hx => by simp at hx
 | A :: B :: V, r :: rs, y :: xs, h, 0, x, hx => by
  obtain ⟨⟨v, n, cs, v', n', cs', h1, h2, h3, h4, h5⟩, h⟩ := h
  simp at hx
  subst hx
  exact ⟨v', n', cs', v, by simp [h2], by simp [h3], h5, fun v2 n2 cs2 ys hy => ⟨⟨v, n, cs, v2, n2, cs2, h1, rfl, rfl, h4, hy⟩, h⟩⟩
 | A :: B :: V, r :: rs, y :: xs, h, i + 1, x, hx => by
  obtain ⟨v, n, cs, v', g1, g2, g3, g4⟩ := h.2.kids (i := i) (x := x) (by simpa using hx)
  refine ⟨v, n, cs, v', by rw [show 2 * (i + 1) + 1 = 2 * i + 1 + 1 + 1 by omega]; simpa using g1, by simpa using g2, g3, fun v2 n2 cs2 ys hy => ?_⟩
  rw [show 2 * (i + 1) + 1 = 2 * i + 1 + 1 + 1 by omega]
  exact ⟨h.1, g4 v2 n2 cs2 ys hy⟩
/-- Two empty rows more, behind. -/
theorem nst_more {E : World} {I : IH} {R V F : List Atom} {w : World} (e : Nat) (hw : Ok E I (R ++ (V ++ F)) w) : Ok E I (R ++ ((V ++ [nilR e, nilR e]) ++ F)) w := by
 refine ((hw.nilrow e 1).nilrow e 1).perm ?_
 have h1 : (nilR e :: nilR e :: (R ++ (V ++ F))).Perm ((R ++ V) ++ (nilR e :: nilR e :: F)) := by
  rw [show R ++ (V ++ F) = (R ++ V) ++ F by simp]
  exact (List.perm_append_comm (l₁ := [nilR e, nilR e]) (l₂ := R ++ V)).append_right F |>.trans (by simp)
 refine h1.trans ?_
 simp
theorem get_tail {R V F : List Atom} {i : Nat} {A : Atom} (h : V[i]? = some A) : (R ++ (V ++ F))[R.length + i]? = some A := by
 have hlt := (List.getElem?_eq_some_iff.1 h).1
 rw [List.getElem?_append_right (by omega), Nat.add_sub_cancel_left, List.getElem?_append_left hlt, h]
theorem set_tail {R V F : List Atom} {i : Nat} {A : Atom} (h : i < V.length) : (R ++ (V ++ F)).set (R.length + i) A = R ++ (V.set i A ++ F) := by
 rw [List.set_append_right _ _ (by omega), Nat.add_sub_cancel_left, List.set_append_left _ _ h]
section
variable {P : Program} {E : World} {I : IH} {w : World} {R V F : List Atom} {n : Nat} {L : List (Nat × Value)} {a : Act} {rs : List (List Value)} {xs : List Plan} {e : Nat}
/-- The header of an inner row, as a cell. -/
def ce (rs : List (List Value)) (i : Int) (fo : Nat) : Value := (gt rs i).getD fo default
theorem ce_nodes {i : Int} (hi : 0 ≤ i ∧ i < (xs.length : Int)) (h : Nst e I V rs xs) : ∃ n cs v', V[2 * i.toNat]? = some (.row (ce rs i 2) e 1 n cs) ∧ gt rs i = [.string (gt xs i).prefix_, .int .i64 (gt xs i).top_, ce rs i 2, v'] ∧ RowR (ekI .i64) I cs (gt xs i).nodes_ ∧
   ∀ v2 n2 cs2 ys, RowR (ekI .i64) I cs2 ys → Nst e I (V.set (2 * i.toNat) (.row v2 e 1 n2 cs2)) (rs.set i.toNat [.string (gt xs i).prefix_, .int .i64 (gt xs i).top_, v2, v']) (xs.set i.toNat { gt xs i with nodes_ := ys }) := by
 obtain ⟨v, n, cs, v', h1, h2, h3, h4⟩ := h.nodes (gt_get hi)
 have hr : gt rs i = [.string (gt xs i).prefix_, .int .i64 (gt xs i).top_, v, v'] := by
  have := gt_get (h.gl hi)
  rw [h2] at this
  injection this with this
  exact this.symm
 have hc : ce rs i 2 = v := by unfold ce; rw [hr]; rfl
 rw [hc]
 exact ⟨n, cs, v', h1, hr, h3, h4⟩
theorem ce_kids {i : Int} (hi : 0 ≤ i ∧ i < (xs.length : Int)) (h : Nst e I V rs xs) : ∃ n cs v', V[2 * i.toNat + 1]? = some (.row (ce rs i 3) e 1 n cs) ∧ gt rs i = [.string (gt xs i).prefix_, .int .i64 (gt xs i).top_, v', ce rs i 3] ∧ RowR (ekI .i64) I cs (gt xs i).kids_ ∧
   ∀ v2 n2 cs2 ys, RowR (ekI .i64) I cs2 ys → Nst e I (V.set (2 * i.toNat + 1) (.row v2 e 1 n2 cs2)) (rs.set i.toNat [.string (gt xs i).prefix_, .int .i64 (gt xs i).top_, v', v2]) (xs.set i.toNat { gt xs i with kids_ := ys }) := by
 obtain ⟨v, n, cs, v', h1, h2, h3, h4⟩ := h.kids (gt_get hi)
 have hr : gt rs i = [.string (gt xs i).prefix_, .int .i64 (gt xs i).top_, v', v] := by
  have := gt_get (h.gl hi)
  rw [h2] at this
  injection this with this
  exact this.symm
 have hc : ce rs i 3 = v := by unfold ce; rw [hr]; rfl
 rw [hc]
 exact ⟨n, cs, v', h1, hr, h3, h4⟩
/-- An inner row has grown, its new header v is not laid yet: what the element's cells must become. -/
def Pnd (e : Nat) (I : IH) (V : List Atom) (rs : List (List Value)) (xs' : List Plan) (i : Int) (fo : Nat) (v : Value) : Prop :=
 v.oneCell' = true ∧ ∃ r, (gt rs i).length = 4 ∧ (∀ u ∈ r, u.oneCell' = true) ∧ r = (gt rs i).set fo v ∧ Nst e I V (rs.set i.toNat r) xs'
theorem Pnd.mono {J : IH} (hI : IH.le I J) {i : Int} {fo : Nat} {v : Value} (h : Pnd e I V rs xs i fo v) : Pnd e J V rs xs i fo v := by
 obtain ⟨h0, r, h1, h2, h3, h4⟩ := h
 exact ⟨h0, r, h1, h2, h3, h4.mono hI⟩
theorem one_row {v : Value} {m sz : Nat} {cs : List Value} (h : w.ownsRow 0 e sz v m cs) : v.oneCell' = true := by
 rcases h.2 with ⟨rfl, -⟩ | ⟨g, cap, cur, rfl, -⟩ <;> rfl
theorem n_load {O : List Atom} (hw : Ok E I O w) (hf : Fr n L a) {d : Nat} {x : Operand} {ty : TypeId} {pos : String} {aft : Array Edge} {gd : Option (Nat × Bool)} {v : Value} {q : Nat} (hx : ev L x = some (.pointer (some (hd v q))))
  {t m sz by_ et : Nat} {z : List Value} {cs : List Value} (ht : tyD P t = some (false, sz, by_, z)) (hN : Nst e I V rs xs) (hR : RowR ekQ I cs rs) {i : Int} (hi : 0 ≤ i ∧ i < (xs.length : Int)) (j : Nat) (hO : O[j]? = some (.row v et 4 m cs)) {fo : Nat} (hq : q = i.toNat * 4 + fo) (hfo : fo < 4) :
  (execOp a.eval (⟨some d, .load t x, ty, pos, aft, gd⟩ : Oper)).run P w = .ok (.value (ce rs i fo)) w := by
 have hr := hR.2 _ _ (gt_get (hN.gl hi))
 have h1 : w.cell? (hd v q) = some (ce rs i fo) := by
  have := row_at (K := ekQ) hw hO hR (hN.gl hi) (fo := fo) hfo
  rw [show (ekQ.sz : Nat) = 4 from rfl] at this
  rw [hq, this]
  obtain ⟨e1, e2, -⟩ := hr
  rw [show (ekQ.sz : Nat) = 4 from rfl] at e1
  rw [e1]
  unfold ce
  rw [List.getD_eq_getElem?_getD, List.getElem?_eq_getElem (by omega)]
  rfl
 simp [execOp, Instr.loadAt, hf.ev hx, Instr.sureAddr, loadVar, ty_isAgg w ht, h1]
theorem r_lenN (hf : Fr n L a) {x : Operand} {t et es : Nat} {v : Value} (ht : elD P t = some (none, et, es)) (hx : ev L x = some v) {w0 : World} (hR : Rd ekQ I w0 v rs) (hN : Nst e I V rs xs) {d : Nat} {ty : TypeId} {pos : String} {aft : Array Edge} {gd : Option (Nat × Bool)} :
  (execOp a.eval (⟨some d, .call { callee := .builtin .len, args := #[x], argTypes := #[t] }, ty, pos, aft, gd⟩ : Oper)).run P w = .ok (.value (.int .i64 xs.length)) w := by
 rw [← hN.len.2]
 exact r_lenL hf ht hx hR
theorem n_app_nodes (hw : Ok E I (R ++ (V ++ F)) w) (hf : Fr n L a) {s x : Operand} {ty : TypeId} {t by_ : Nat} {ag : Bool} {z : List Value} (ht : elD P t = some (none, e, 1)) (hte : tyD P e = some (ag, 1, by_, z)) (hzl : z.length = 1) (hby : by_ ≤ 512)
  {vx : Value} {ys : List Int} {i : Int} (hs : ev L s = some (ce rs i 2)) (hx : ev L x = some vx) (hN : Nst e I V rs xs) (hi : 0 ≤ i ∧ i < (xs.length : Int)) (hY : Rd (ekI .i64) I w vx ys) (hb : (gt xs i).nodes_.length + ys.length ≤ 274877906944) :
  ∃ w' v' V', (∀ (d : Nat) (pos : String) (aft : Array Edge) (gd : Option (Nat × Bool)), (execOp a.eval (⟨some d, .call { callee := .builtin .append, args := #[s, x], argTypes := #[t, t] }, ty, pos, aft, gd⟩ : Oper)).run P w = .ok (.value v') w') ∧ Ok E I (R ++ (V' ++ F)) w' ∧
   Pnd e I V' rs (xs.set i.toNat { gt xs i with nodes_ := (gt xs i).nodes_ ++ ys }) i 2 v' := by
 obtain ⟨n0, cs, v0, h1, h2, h3, h4⟩ := ce_nodes hi hN
 have hlt := (List.getElem?_eq_some_iff.1 h1).1
 obtain ⟨w', v', m', cs', r1, r2, r3⟩ := e_append (P := P) (K := ekI .i64) (ty := ty) hw hf (s := s) (x := x) (t := t) ht hte hzl hby (R.length + 2 * i.toNat) hs hx (get_tail h1) h3 hY hb
 rw [set_tail hlt] at r2
 replace r2 : Ok E I (R ++ (V.set (2 * i.toNat) (.row v' e 1 m' cs') ++ F)) w' := r2
 have hself : (V.set (2 * i.toNat) (.row v' e 1 m' cs'))[2 * i.toNat]? = some (.row v' e 1 m' cs') := by rw [List.getElem?_set]; simp [hlt]
 have ho := one_row (row_form (i := R.length + (2 * i.toNat)) r2 (get_tail hself))
 refine ⟨w', v', _, r1, r2, ho, _, by rw [h2]; rfl, ?_, ?_, h4 v' m' cs' _ r3⟩
 ·intro u hu
  have h0 : v0.oneCell' = true := by
   obtain ⟨v1, n1, c1, v2, g1, g2, -⟩ := hN.kids (gt_get hi)
   have := gt_get (hN.gl hi)
   rw [g2] at this
   injection this with this
   rw [h2] at this
   simp at this
   rw [← this.2]
   exact one_row (row_form hw (get_tail g1))
  simp at hu
  rcases hu with rfl | rfl | rfl | rfl
  ·rfl
  ·rfl
  ·exact ho
  ·exact h0
 ·rw [h2]; rfl
theorem n_app_kids (hw : Ok E I (R ++ (V ++ F)) w) (hf : Fr n L a) {s x : Operand} {ty : TypeId} {t by_ : Nat} {ag : Bool} {z : List Value} (ht : elD P t = some (none, e, 1)) (hte : tyD P e = some (ag, 1, by_, z)) (hzl : z.length = 1) (hby : by_ ≤ 512)
  {vx : Value} {ys : List Int} {i : Int} (hs : ev L s = some (ce rs i 3)) (hx : ev L x = some vx) (hN : Nst e I V rs xs) (hi : 0 ≤ i ∧ i < (xs.length : Int)) (hY : Rd (ekI .i64) I w vx ys) (hb : (gt xs i).kids_.length + ys.length ≤ 274877906944) :
  ∃ w' v' V', (∀ (d : Nat) (pos : String) (aft : Array Edge) (gd : Option (Nat × Bool)), (execOp a.eval (⟨some d, .call { callee := .builtin .append, args := #[s, x], argTypes := #[t, t] }, ty, pos, aft, gd⟩ : Oper)).run P w = .ok (.value v') w') ∧ Ok E I (R ++ (V' ++ F)) w' ∧
   Pnd e I V' rs (xs.set i.toNat { gt xs i with kids_ := (gt xs i).kids_ ++ ys }) i 3 v' := by
 obtain ⟨n0, cs, v0, h1, h2, h3, h4⟩ := ce_kids hi hN
 have hlt := (List.getElem?_eq_some_iff.1 h1).1
 obtain ⟨w', v', m', cs', r1, r2, r3⟩ := e_append (P := P) (K := ekI .i64) (ty := ty) hw hf (s := s) (x := x) (t := t) ht hte hzl hby (R.length + (2 * i.toNat + 1)) hs hx (get_tail h1) h3 hY hb
 rw [set_tail hlt] at r2
 replace r2 : Ok E I (R ++ (V.set (2 * i.toNat + 1) (.row v' e 1 m' cs') ++ F)) w' := r2
 have hself : (V.set (2 * i.toNat + 1) (.row v' e 1 m' cs'))[2 * i.toNat + 1]? = some (.row v' e 1 m' cs') := by rw [List.getElem?_set]; simp [hlt]
 have ho := one_row (row_form (i := R.length + (2 * i.toNat + 1)) r2 (get_tail hself))
 refine ⟨w', v', _, r1, r2, ho, _, by rw [h2]; rfl, ?_, ?_, h4 v' m' cs' _ r3⟩
 ·intro u hu
  have h0 : v0.oneCell' = true := by
   obtain ⟨v1, n1, c1, v2, g1, g2, -⟩ := hN.nodes (gt_get hi)
   have := gt_get (hN.gl hi)
   rw [g2] at this
   injection this with this
   rw [h2] at this
   simp at this
   rw [← this.1]
   exact one_row (row_form hw (get_tail g1))
  simp at hu
  rcases hu with rfl | rfl | rfl | rfl
  ·rfl
  ·rfl
  ·exact h0
  ·exact ho
 ·rw [h2]; rfl
/-- The new header is laid. -/
theorem n_store (hw : Ok E I (R ++ (V ++ F)) w) (hf : Fr n L a) {t : TypeId} {x y : Operand} {v u : Value} {q : Nat} (hx : ev L x = some (.pointer (some (hd v q)))) (hy : ev L y = some u) {by_ : Nat} {z : List Value} (ht : tyD P t = some (false, 1, by_, z))
  (j : Nat) {et m : Nat} {cs : List Value} (hO : (R ++ (V ++ F))[j]? = some (.row v et 4 m cs)) (hj : j < R.length) (hR : RowR ekQ I cs rs) {i : Int} {fo : Nat} (hi : 0 ≤ i ∧ i < (rs.length : Int)) (hq : q = i.toNat * 4 + fo) (hfo : fo < 4) (hP : Pnd e I V rs xs i fo u) :
  ∃ w' cs' rs', (∀ (ty : TypeId) (pos : String) (aft : Array Edge) (gd : Option (Nat × Bool)), (execOp a.eval (⟨none, .store t x y, ty, pos, aft, gd⟩ : Oper)).run P w = .ok .skip w') ∧ Ok E I (R.set j (.row v et 4 m cs') ++ (V ++ F)) w' ∧ RowR ekQ I cs' rs' ∧ Nst e I V rs' xs := by
 obtain ⟨h0, r, h1, h2, h3, h4⟩ := hP
 obtain ⟨w', cs', g1, g2, g3⟩ := e_storeH (P := P) (K := ekQ) hw hf hx hy ht j hO hR hi hq (vs := [u]) (one_cells h0) rfl (by simpa using h0) (by show fo + 1 ≤ 4; omega) (x' := r) (fun c hc => by
  obtain ⟨e1, e2, e3⟩ := hc
  have e2' : (gt rs i).length = 4 := h1
  refine ⟨?_, by rw [h3, List.length_set]; exact e2', h2⟩
  rw [e1, h3, List.set_eq_take_append_cons_drop, if_pos (by omega)]
  simp)
 rw [List.set_append_left _ _ hj] at g2
 exact ⟨w', cs', _, g1, g2, g3, h4⟩
/-- All is made immutable. -/
theorem nst_rows : ∀ {V : List Atom} {rs : List (List Value)} {xs : List Plan} {I : IH} {O : List Atom}, Nst e I V rs xs → Ok E I (V ++ O) w → ∃ J, IH.le I J ∧ Ok E J O w ∧ rs.length = xs.length ∧ ∀ (i : Nat) (r : List Value) (x : Plan), rs[i]? = some r → xs[i]? = some x → ek_Plan.rel J x r
 | [], [], [], I, O, _, hw => ⟨I, IH.le_refl I, hw, rfl, fun i r x h => by simp at h⟩
 | A :: B :: V, r :: rs, x :: xs, I, O, h, hw => by
  obtain ⟨⟨v, n, cs, v', n', cs', h1, h2, h3, h4, h5⟩, h⟩ := h
  subst h1 h2
  obtain ⟨J, hJ, hw1, hA⟩ := row_freeze (K := ekI .i64) hw h4
  obtain ⟨J2, hJ2, hw2, hB⟩ := row_freeze (K := ekI .i64) hw1 (h5.mono hJ)
  obtain ⟨J3, hJ3, hw3, hl, hr⟩ := nst_rows (h.mono (IH.le_trans hJ hJ2)) hw2
  refine ⟨J3, IH.le_trans hJ (IH.le_trans hJ2 hJ3), hw3, by simp [hl], fun i r' x' hr' hx' => ?_⟩
  cases i with
  | zero =>
   simp at hr' hx'
   subst hr' hx'
   rw [h3]
   exact ⟨_, _, rfl, (hA.mono hJ2).mono hJ3, hB.mono hJ3⟩
  | succ i => exact hr i r' x' (by simpa using hr') (by simpa using hx')
theorem nst_freeze {v : Value} {et m : Nat} {cs : List Value} (hw : Ok E I (.row v et 4 m cs :: (R ++ (V ++ F))) w) (hR : RowR ekQ I cs rs) (hN : Nst e I V rs xs) : ∃ J, IH.le I J ∧ Ok E J (R ++ F) w ∧ RS ek_Plan J v xs := by
 have hw1 : Ok E I (V ++ (.row v et 4 m cs :: (R ++ F))) w := by
  refine hw.perm ?_
  rw [show (Atom.row v et 4 m cs :: (R ++ (V ++ F))) = ((Atom.row v et 4 m cs :: R) ++ V) ++ F by simp, show V ++ (Atom.row v et 4 m cs :: (R ++ F)) = (V ++ (Atom.row v et 4 m cs :: R)) ++ F by simp]
  exact List.perm_append_comm.append_right F
 obtain ⟨J, hJ, hw2, hl, hr⟩ := nst_rows hN hw1
 have hR' : RowR ek_Plan J cs xs := by
  refine ⟨by rw [hR.1, hl]; rfl, fun i x hx => ?_⟩
  have hi : i < rs.length := by rw [hl]; exact (List.getElem?_eq_some_iff.1 hx).1
  have hrr := List.getElem?_eq_getElem hi
  have h1 := hR.2 i _ hrr
  have h2 := hr i _ x hrr hx
  obtain ⟨e1, -⟩ := h1
  rw [← e1] at h2
  exact h2
 obtain ⟨J2, hJ2, hw3, hS⟩ := row_freeze (K := ek_Plan) hw2 hR'
 exact ⟨J2, IH.le_trans hJ hJ2, hw3, hS⟩
end
end Go.Lf
