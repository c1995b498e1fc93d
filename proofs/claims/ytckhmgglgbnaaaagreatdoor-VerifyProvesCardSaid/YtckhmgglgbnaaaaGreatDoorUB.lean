/- Rules that came later: structs built of structs, a struct out of a struct. -/
import Derived.Test.YtckhmgglgbnaaaaGreatDoorU9
import Derived.Test.YtckhmgglgbnaaaaGreatDoorU7
set_option linter.unusedVariables false
set_option linter.unusedSimpArgs false
namespace Go.Lf
open Go
section
variable {P : Program} {ops : Array Oper} {E : World} {I : IH} {O : List Atom} {w : World} {n : Nat} {L : List (Nat × Value)} {a : Act} {ty : TypeId} {pos : String} {aft : Array Edge} {d : Nat} {gd : Option (Nat × Bool)}
def setAllA (ps : List (Nat × Nat)) : List Value → List (Nat × List Value) → Option (List Value)
 | cs, [] => some cs
 | cs, (i, c) :: r => match ps[i]? with
  | some (off, sz) => if c.length = sz then setAllA ps (cs.take off ++ c ++ cs.drop (off + sz)) r else none
  | none => none
theorem fill_setAllA (ps : List (Nat × Nat)) : ∀ (is : List Nat) (vs : List Value) (ccs : List (List Value)) (cs out : List Value), is.length = vs.length → vs.map Value.cells = ccs.map (fun c => (⟨c⟩ : Array Value)) → (∀ p ∈ ps, p.1 + p.2 ≤ cs.length) → setAllA ps cs (is.zip ccs) = some out → Instr.fill (fun x => ps[x]?) ⟨cs⟩ (is.zip vs) = some ⟨out⟩
 | [], vs, ccs, cs, out, hl, hc, hp, h => by
  simp [setAllA] at h
  subst h
  rfl
 | i :: is, [], ccs, cs, out, hl, hc, hp, h => by simp at hl
 | i :: is, v :: vs, [], cs, out, hl, hc, hp, h => by simp at hc
 | i :: is, v :: vs, c :: ccs, cs, out, hl, hc, hp, h => by
  simp only [List.map_cons, List.cons.injEq] at hc
  obtain ⟨hc1, hc2⟩ := hc
  simp only [List.zip_cons_cons, setAllA] at h ⊢
  cases hpi : ps[i]? with
  | none => simp [hpi] at h
  | some q =>
   obtain ⟨off, sz⟩ := q
   simp only [hpi] at h
   split at h
   ·rename_i hsz
    have hfit : off + sz ≤ cs.length := hp (off, sz) (List.mem_of_getElem? hpi)
    have hsplit : cs = cs.take off ++ (cs.drop off).take sz ++ cs.drop (off + sz) := by
     rw [List.append_assoc, ← List.drop_drop, List.take_append_drop, List.take_append_drop]
    have h3 := fill_step (fun x => ps[x]?) i off sz v c (cs.take off) ((cs.drop off).take sz) (cs.drop (off + sz)) (is.zip vs) hpi hc1 hsz (by simp; omega) (by simp; omega)
    rw [← hsplit] at h3
    rw [h3]
    refine fill_setAllA ps is vs ccs _ out (by simpa using hl) hc2 (fun p hpm => ?_) h
    have := hp p hpm
    simp only [List.length_append, List.length_take, List.length_drop, hsz]
    omega
   ·cases h
theorem r_buildA (hf : Fr n L a) {t : Nat} {parts : List (Nat × Operand)} {ps : List (Nat × Nat)} {z : List Value} (ht : bdD P t = some (ps, z)) {vs : List Value} (hv : evs L (parts.map (·.2)) = some vs) {ccs : List (List Value)} (hc : vs.map Value.cells = ccs.map (fun c => (⟨c⟩ : Array Value))) (hp : ∀ p ∈ ps, p.1 + p.2 ≤ z.length) {out : List Value} (hs : setAllA ps z ((parts.map (·.1)).zip ccs) = some out) :
  (execOp a.eval (⟨some d, .build t parts.toArray, ty, pos, aft, gd⟩ : Oper)).run P w = .ok (.value (.agg ⟨out⟩)) w := by
 have hparts : (parts.toArray.map fun (i, x) => (i, a.eval x)).toList = (parts.map (·.1)).zip vs := by
  have h1 : (parts.toArray.map fun (i, x) => (i, a.eval x)).toList = parts.map (fun p => (p.1, a.eval p.2)) := by simp
  rw [h1, zip_map, hf.evs hv]
 have hb : P.built t (parts.toArray.map fun (i, x) => (i, a.eval x)).toList = some ⟨out⟩ := by
  rw [hparts, bd_built ht]
  refine fill_setAllA ps _ vs ccs z out ?_ hc hp hs
  have := congrArg List.length (hf.evs hv)
  simp at this ⊢
  omega
 simp only [execOp, Sem.run_bind, run_build w t _ ⟨out⟩ hb, Result.andThen_ok, Sem.run_pure]
theorem r_fieldA (hf : Fr n L a) {t fk : Nat} {x : Operand} {cs : List Value} (hx : ev L x = some (.agg ⟨cs⟩)) {fo ft fs : Nat} (ht : fdD P t fk = some (fo, ft, fs)) {by_ : Nat} {z : List Value} (htt : tyD P ft = some (true, fs, by_, z))
  {vs : List Value} (hc : (cs.drop fo).take fs = vs) :
  (execOp a.eval (⟨some d, .field t x fk, ty, pos, aft, gd⟩ : Oper)).run P w = .ok (.value (.agg ⟨vs⟩)) w := by
 obtain ⟨fields, f, i, hu, hfk, ho, hft, hi, his⟩ := fd_field ht
 subst ho
 have he : (⟨cs⟩ : Array Value).extract f.offset (f.offset + fs) = ⟨vs⟩ := by
  rw [← hc]
  apply Array.ext'
  simp [List.extract_eq_take_drop]
 simp [execOp, Instr.field, run_underlying hu, hfk, hf.ev hx, asAgg, hft, part_agg htt, he]
theorem b_retT (hw : Ok E I O w) (hf : Fr n L a) {fn : Func} {p t u : Nat} (hr : fn.results = #[.tmp u, .cell p t]) {b off sz by_ : Nat} {z : List Value} (ht : tyD P t = some (true, sz, by_, z)) (hp : lk L p = some (.pointer (some ⟨b, off, none⟩))) (i : Nat) {cs vs : List Value} {e : TypeId} {fr : Nat × Nat} (hO : O[i]? = some (.blk b (.cells ⟨cs⟩ e fr)))
  (hc : (cs.drop off).take sz = vs) (hl : vs.length = sz) {v : Value} (hv : lk L u = some v) {R : Ending → World → Prop} (h : R (.returned (.tuple ⟨[v, .agg ⟨vs⟩]⟩)) w) : bodyPost P fn R .ret a w := by
 refine ⟨hf.df, .tuple ⟨[v, .agg ⟨vs⟩]⟩, ?_, h⟩
 have h1 := hf.at_ p _ hp
 have h2 := hf.at_ u _ hv
 simp [results, hr, Array.getD_eq_getD_getElem?, h1, h2, asAddr, run_load_blkA ht (own_blk hw hO) hc hl]
end
abbrev e0 : ByteArray := ⟨#[]⟩
theorem oQ {P : Program} {ops : Array Oper} {Q : Exit → Act → World → Prop} {rest : List Oper} {a : Act} {w : World} {n : Nat} {L : List (Nat × Value)} {d : Nat} {o : Oper} (hf : Fr n L a) {j g : Nat} {want b : Bool} (h : (o.guard, (ops[j]?).bind (·.dst), lk L g, (b == want), o.dst, Nat.blt d n) = (some (j, want), some g, some (.bool b), false, some d, true))
    (k : ∀ a, Fr n ((d, undef) :: L) a → wpList P ops Q rest a w) : wpList P ops Q (o :: rest) a w := by
  simp only [Prod.mk.injEq] at h
  exact o_skip hf h.1 h.2.1 h.2.2.1 h.2.2.2.1 h.2.2.2.2.1 h.2.2.2.2.2 k
end Go.Lf
