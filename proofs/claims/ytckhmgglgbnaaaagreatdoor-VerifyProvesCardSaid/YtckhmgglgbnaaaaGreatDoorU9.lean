/- Package variables, slices made with room, slices as arrays, two results of which the first lies in memory. -/
import Derived.Test.YtckhmgglgbnaaaaGreatDoorU8
import Derived.Lib.Join
set_option linter.unusedVariables false
set_option linter.unusedSimpArgs false
namespace Go.Lf
open Go
/-- strings.Join. -/
def strings_Join.f (a0 : List ByteArray) (a1 : ByteArray) : Option ByteArray :=
 gd (a0.length ≤ 140737488355328 ∧ (Lib.join (a0.map (·.data.toList)) a1.data.toList).length ≤ 140737488355328) <|
 some ⟨(Lib.join (a0.map (·.data.toList)) a1.data.toList).toArray⟩
/-- The first m of a list, as an array. -/
def vecN (m : Nat) (xs : List Int) : Vector Int m := Vector.ofFn fun i => xs.getD i.val 0
theorem vecN_list {m : Nat} {xs : List Int} (h : m ≤ xs.length) : (vecN m xs).toList = xs.take m := by
 apply List.ext_getElem
 ·simp; omega
 ·intro i h1 h2
  have hi : i < m := by simpa using h1
  simp [vecN, List.getD_eq_getElem?_getD, List.getElem?_eq_getElem (show i < xs.length by omega)]
section
variable {P : Program} {ops : Array Oper} {a : Act} {w : World} {E : World} {I : IH} {O : List Atom} {n : Nat} {L : List (Nat × Value)} {ty : TypeId} {pos : String} {aft : Array Edge} {d : Nat} {gd : Option (Nat × Bool)}
theorem r_loadG (hw : Ok E I O w) (hf : Fr n L a) {t : TypeId} {x : Operand} {b off : Nat} (hx : ev L x = some (.pointer (some ⟨b, off, none⟩))) {sz by_ : Nat} {z : List Value} (ht : tyD P t = some (false, sz, by_, z))
  {cs : List Value} {e : TypeId} {fr : Nat × Nat} (hG : I b = some (.cells ⟨cs⟩ e fr)) {v : Value} (hc : cs[off]? = some v) :
  (execOp a.eval (⟨some d, .load t x, ty, pos, aft, gd⟩ : Oper)).run P w = .ok (.value (v)) w :=
 (by simp [execOp, Instr.loadAt, hf.ev hx, Instr.sureAddr, run_load_blk ht (hw.imm _ _ hG) hc])
theorem r_loadGA (hw : Ok E I O w) (hf : Fr n L a) {t : TypeId} {x : Operand} {b off : Nat} (hx : ev L x = some (.pointer (some ⟨b, off, none⟩))) {sz by_ : Nat} {z : List Value} (ht : tyD P t = some (true, sz, by_, z))
  {cs vs : List Value} {e : TypeId} {fr : Nat × Nat} (hG : I b = some (.cells ⟨cs⟩ e fr)) (hc : (cs.drop off).take sz = vs) (hl : vs.length = sz) :
  (execOp a.eval (⟨some d, .load t x, ty, pos, aft, gd⟩ : Oper)).run P w = .ok (.value (.agg ⟨vs⟩)) w :=
 (by simp [execOp, Instr.loadAt, hf.ev hx, Instr.sureAddr, run_load_blkA ht (hw.imm _ _ hG) hc hl])
theorem r_s2ap (hf : Fr n L a) {t e m es : Nat} {x : Operand} {v : Value} (ht : elD P t = some (some m, e, es)) (hx : ev L x = some v) {I : IH} {w0 : World} {xs : List Int} (hR : Rd (ekI .u8) I w0 v xs) (hm : m ≤ xs.length ∧ 0 < m) :
  (execOp a.eval (⟨some d, .sliceToArrayPointer t x, ty, pos, aft, gd⟩ : Oper)).run P w = .ok (.value (.pointer (some (hd v 0)))) w := by
 obtain ⟨it, hu, -, -⟩ := el_array ht
 obtain ⟨-, A, c, rfl, h | ⟨b, off, cs, e', fr, rfl, hb, hr⟩⟩ := hR
 ·subst h
  simp at hm
  omega
 ·have h1 : ¬ xs.length < m := by omega
  simp [execOp, hf.ev hx, Instr.arrayAt, run_underlying hu, h1, Lf.hd]
theorem r_loadSP (hf : Fr n L a) {t : TypeId} {x : Operand} {v : Value} (hx : ev L x = some (.pointer (some (Lf.hd v 0)))) {m by_ : Nat} {z : List Value} (ht : tyD P t = some (true, m, by_, z)) {xs : List Int} (hR : Rd (ekI .u8) I w v xs) (hm : m ≤ xs.length ∧ 0 < m) :
  (execOp a.eval (⟨some d, .load t x, ty, pos, aft, gd⟩ : Oper)).run P w = .ok (.value (.agg ⟨arrC .u8 (vecN m xs)⟩)) w := by
 obtain ⟨-, A, c, rfl, h | ⟨b, off, cs, e', fr, rfl, hb, hr⟩⟩ := hR
 ·subst h
  simp at hm
  omega
 ·have hx' : ev L x = some (.pointer (some ⟨b, off, none⟩)) := by rw [hx]; simp [Lf.hd]
  have hc : (cs.drop off).take m = arrC .u8 (vecN m xs) := by
   apply List.ext_getElem?
   intro i
   by_cases hi : i < m
   ·have h1 := hr i xs[i] (List.getElem?_eq_getElem (by omega))
    have h1' : List.take 1 (cs.drop (off + i * 1)) = [.int .u8 xs[i]] := h1
    rw [Nat.mul_one] at h1'
    have h2 := congrArg (fun l : List Value => l[0]?) h1'
    simp [List.getElem?_take, List.getElem?_drop] at h2
    rw [List.getElem?_take, if_pos hi, List.getElem?_drop, h2, arrC, List.getElem?_map, vecN_list hm.1, List.getElem?_take, if_pos hi, List.getElem?_eq_getElem (by omega)]
    rfl
   ·rw [List.getElem?_eq_none (by simp; omega), List.getElem?_eq_none (by simp [arrC_len]; omega)]
  simp [execOp, Instr.loadAt, hf.ev hx', Instr.sureAddr, run_load_blkA ht hb hc (arrC_len _ _)]
theorem e_makeNC {α : Type} {K : EK α} (hw : Ok E I O w) (hf : Fr n L a) {t e by_ : Nat} {ag : Bool} {z : List Value} {l c : Operand} (ht : elD P t = some (none, e, K.sz)) (hte : tyD P e = some (ag, K.sz, by_, z)) (hzl : z.length = K.sz) (hby : by_ ≤ 512) {kl kc : IntKind} {N M : Int} (hl : ev L l = some (.int kl N)) (hc : ev L c = some (.int kc M))
  {x : α} (hx : ∀ I, K.rel I x z) (hN : 0 ≤ N ∧ N ≤ M ∧ M ≤ 274877906944) :
  ∃ w' v cs, (∀ (d : Nat) (ty : TypeId) (pos : String) (aft : Array Edge) (gd : Option (Nat × Bool)), (execOp a.eval (⟨some d, .makeSlice t l c, ty, pos, aft, gd⟩ : Oper)).run P w = .ok (.value v) w') ∧ Ok E I (.row v e K.sz N.toNat cs :: O) w' ∧ RowR K I cs (List.replicate N.toNat x) := by
 obtain ⟨it, hu, hi1, hi2⟩ := el_slice ht
 obtain ⟨it', zv, hi1', hsz, hbb, hz, hzc⟩ := ty_info hte
 rw [hi1] at hi1'
 cases hi1'
 have hle : M.toNat ≤ 274877906944 := by omega
 have hb1 : it.bytes * M.toNat ≤ 281474976710656 := by
  rw [hbb]
  calc by_ * M.toNat ≤ 512 * 274877906944 := Nat.mul_le_mul hby hle
   _ ≤ 281474976710656 := by decide
 have hb2 : (it.bytes : Int) * M ≤ 281474976710656 := by
  have h : ((it.bytes * M.toNat : Nat) : Int) ≤ 281474976710656 := by omega
  rw [Int.natCast_mul] at h
  have e : ((M.toNat : Nat) : Int) = M := by omega
  rwa [e] at h
 have hrun := run_make (P := P) w t e it zv hu hi1 hz kl kc N M hN.1 hN.2.1 hb2 (by omega)
 have hcells : (madeCells zv.cells (M.toNat * K.sz)).toList = (List.replicate M.toNat z).flatten := by
  rw [hzc, ← hzl]
  exact made_flat z (by rw [hzl]; exact K.pos) _
 have hsplit : List.take (N.toNat * K.sz) (List.replicate M.toNat z).flatten = (List.replicate N.toNat z).flatten := by
  have e : M.toNat = N.toNat + (M.toNat - N.toNat) := by omega
  rw [e, ← List.replicate_append_replicate, List.flatten_append, List.take_append_of_le_length (by simp [hzl])]
  exact List.take_of_length_le (by simp [hzl])
 refine ⟨w.alloc (.cells (madeCells zv.cells (M.toNat * it.size)) e), .slice (some ⟨w.heap.size, 0, none⟩) N.toNat M.toNat, (List.replicate N.toNat z).flatten, ?_, ?_, rows_replicate (hx I) _⟩
 ·intro _ _ _ _ _; simp only [execOp, hf.ev hl, hf.ev hc, Sem.run_bind, hrun, Result.andThen_ok, Sem.run_pure]
 ·refine hw.new (World.grownBy_alloc w _ none) ?_ ?_
  ·refine ⟨by simp [hzl], .inr ⟨w.heap.size, M.toNat, _, rfl, Nat.zero_le _, heap_alloc_new w _, by omega, by simp only [maxLen]; omega, ?_, ?_⟩⟩
   ·rw [size_madeCells, hi2]
   ·rw [hi2, hcells, hsplit]
  ·intro b hb
   have : w.heap.size = b := by simpa [Atom.foot, Value.ownBlock] using hb
   omega
theorem b_retC2 (hw : Ok E I O w) (hf : Fr n L a) {fn : Func} {p t u : Nat} (hr : fn.results = #[.cell p t, .tmp u]) {b off sz by_ : Nat} {z : List Value} (ht : tyD P t = some (true, sz, by_, z)) (hp : lk L p = some (.pointer (some ⟨b, off, none⟩))) (i : Nat) {cs vs : List Value} {e : TypeId} {fr : Nat × Nat} (hO : O[i]? = some (.blk b (.cells ⟨cs⟩ e fr)))
  (hc : (cs.drop off).take sz = vs) (hl : vs.length = sz) {v : Value} (hv : lk L u = some v) {R : Ending → World → Prop} (h : R (.returned (.tuple ⟨[.agg ⟨vs⟩, v]⟩)) w) : bodyPost P fn R .ret a w := by
 refine ⟨hf.df, .tuple ⟨[.agg ⟨vs⟩, v]⟩, ?_, h⟩
 have h1 := hf.at_ p _ hp
 have h2 := hf.at_ u _ hv
 simp [results, hr, Array.getD_eq_getD_getElem?, h1, h2, asAddr, run_load_blkA ht (own_blk hw hO) hc hl]
end
/-! Short words for the rules, for texts that must be small -/
theorem wr : type_of% @wp_region_lit := @wp_region_lit
theorem ct : type_of% @c_then := @c_then
theorem wq : type_of% @wp_seq := @wp_seq
theorem oN : type_of% @o_nil := @o_nil
theorem oR : type_of% @o_run := @o_run
theorem oS : type_of% @o_skip := @o_skip
theorem rF : type_of% @r_fieldAddr := @r_fieldAddr
theorem oI : type_of% @out_inj := @out_inj
theorem gS : type_of% @gd_some := @gd_some
theorem bS : type_of% @bind_some := @bind_some
theorem oC : type_of% @ones_cons := @ones_cons
theorem pT : type_of% @r_pickT := @r_pickT
theorem pF : type_of% @r_pickF := @r_pickF
theorem iC : type_of% @r_icmp := @r_icmp
theorem nC : type_of% @r_nilCheck := @r_nilCheck
theorem oW : type_of% @o_want := @o_want
theorem rI : type_of% @r_indexAddr := @r_indexAddr
theorem rL : type_of% @r_load := @r_load
theorem tR : type_of% @t_rd := @t_rd
theorem tG : type_of% @t_rdG := @t_rdG
theorem tS : type_of% @t_rdS := @t_rdS
theorem rE : type_of% @r_extract := @r_extract
theorem cC : type_of% @c_cond := @c_cond
theorem rR : type_of% @row_rd := @row_rd
theorem oE : type_of% @one_cells := @one_cells
end Go.Lf
