/- A string's bytes as a slice: a row that bears a mark behind its end. -/
import Derived.Test.YtckhmgglgbnaaaaU5
import Derived.Lib.ConvBytes
set_option linter.unusedVariables false
set_option linter.unusedSimpArgs false
namespace Go.Lf
open Go
def nums (s : ByteArray) : List Int := s.data.toList.map fun b => ((b.toNat : Nat) : Int)
theorem nums_len (s : ByteArray) : (nums s).length = s.size := by
  unfold nums
  rw [List.length_map, Array.length_toList]
  rfl
/-- A row of bytes that came of a string: it bears a mark behind its end. -/
def SB (A : Atom) (v : Value) (e : TypeId) (xs : List Int) : Prop :=
  ∃ (b : Nat) (cs : List Value) (cap : Nat), A = .blk b (.cells ⟨cs⟩ e (cs.length, cs.length + 1)) ∧ v = .slice (some ⟨b, 0, none⟩) xs.length cap ∧ xs.length ≤ cap ∧ xs.length ≤ 9223372036854775807 ∧ xs.length ≤ cs.length ∧ ∀ (i : Nat) (x : Int), xs[i]? = some x → cs[i]? = some (Value.int .u8 x)
theorem SB.mono {A : Atom} {v : Value} {e : TypeId} {xs : List Int} {I J : IH} (h : SB A v e xs) (_ : IH.le I J) : SB A v e xs := h
theorem SB.one {A : Atom} {v : Value} {e : TypeId} {xs : List Int} (h : SB A v e xs) : v.oneCell' = true := by
  obtain ⟨b, cs, cap, -, rfl, -⟩ := h
  rfl
section
variable {P : Program} {a : Act} {w : World} {E : World} {I : IH} {O : List Atom} {n : Nat} {L : List (Nat × Value)}
theorem sb_rd (hw : Ok E I O w) {A : Atom} {v : Value} {e : TypeId} {xs : List Int} {i : Nat} (hO : O[i]? = some A) (h : SB A v e xs) : Rd (ekI .u8) I w v xs := by
  obtain ⟨b, cs, cap, rfl, rfl, h1, h2, h3, h4⟩ := h
  refine ⟨⟨h2, h1⟩, _, cap, rfl, .inr ⟨b, 0, cs, e, _, rfl, hw.own _ (List.mem_of_getElem? hO), fun i x hx => ?_⟩⟩
  have h := h4 i x hx
  have hi : i < cs.length := (List.getElem?_eq_some_iff.1 h).1
  show List.take 1 (cs.drop (0 + i * 1)) = [.int .u8 x]
  rw [Nat.zero_add, Nat.mul_one, List.drop_eq_getElem_cons hi]
  have : cs[i] = .int .u8 x := (List.getElem?_eq_some_iff.1 h).2
  rw [this]
  rfl
theorem e_convSB (hw : Ok E I O w) (hf : Fr n L a) {s t e : TypeId} {x : Operand} {X : ByteArray} {u : TypeDesc} (hs : P.underlying s = some u) (ht : P.underlying t = some (.slice e)) (he : P.underlying e = some (.int .u8)) (hx : ev L x = some (.string X)) (hb : X.size ≤ 274877906944) :
    ∃ w' v A, (∀ (d : Nat) (ty : TypeId) (pos : String) (aft : Array Edge) (gd : Option (Nat × Bool)), (execOp a.eval (⟨some d, .convert s t x, ty, pos, aft, gd⟩ : Oper)).run P w = .ok (.value v) w') ∧ Ok E I (A :: O) w' ∧ SB A v e (nums X) := by
  have hrun := Lib.run_convert_string_bytes (P := P) w s t e X hs ht he
  have hnew := Lib.bytesWorld_at_new w e X
  have hcap := grownCap_ge w X.size 0 e
  refine ⟨Lib.bytesWorld w e X, .slice (some ⟨w.heap.size, 0, none⟩) X.size (grownCap w X.size 0 e), .blk w.heap.size (.cells (Lib.bytesCells w e X) e ((Lib.bytesCells w e X).size, (Lib.bytesCells w e X).size + 1)), ?_, ?_, ?_⟩
  · intro _ _ _ _ _
    simp [execOp, hf.ev hx, hrun]
  · refine hw.new ⟨rfl, rfl, rfl, ?_, fun k hk _ => Lib.bytesWorld_at_old w e X k hk⟩ hnew ?_
    · rw [Lib.bytesWorld_size]; omega
    · intro b hb
      have : w.heap.size = b := by simpa [Atom.foot] using hb
      omega
  · refine ⟨w.heap.size, (Lib.bytesCells w e X).toList, grownCap w X.size 0 e, by simp, by rw [nums_len], by rw [nums_len]; exact hcap, by rw [nums_len]; omega, ?_, ?_⟩
    · rw [nums_len]
      simp [Lib.bytesCells]
    · intro i y hy
      have hi : i < X.size := by rw [← nums_len]; exact (List.getElem?_eq_some_iff.1 hy).1
      have hi' : i < X.data.size := hi
      simp only [nums, List.getElem?_map, Array.getElem?_toList] at hy
      rw [Array.getElem?_eq_getElem hi'] at hy
      simp only [Option.map_some, Option.some.injEq] at hy
      subst hy
      rw [Array.getElem?_toList, Lib.bytesCells, Array.getElem?_append]
      simp [hi', hi]
theorem run_store_mark {t b off by_ : Nat} {z : List Value} {cs : List Value} {e : TypeId} {lo hi : Nat} {v : Value} (ht : tyD P t = some (false, 1, by_, z))
    (h : w.heap[b]? = some (.cells ⟨cs⟩ e (lo, hi))) (h1 : v.oneCell' = true) (hfit : off < cs.length) (hlo : off < lo) :
    (storeVar t ⟨b, off, none⟩ v).run P w = .ok () (w.setRow b (cs.set off v).toArray) := by
  have hv : v.cells = ⟨[v]⟩ := one_cells h1
  have hcell : w.cell? ⟨b, off, none⟩ = some cs[off] := by rw [cell_blk h]; exact List.getElem?_eq_getElem hfit
  have hfro : w.frozen? ⟨b, off, none⟩ = false := by
    simp [World.frozen?, h]
    omega
  have hadd : (⟨b, off, none⟩ : Addr).add 0 = ⟨b, off, none⟩ := by rw [add_lit]; rfl
  have hst : (store ((⟨b, off, none⟩ : Addr).add 0) v).run P w = .ok () (w.setRow b (cs.set off v).toArray) := by
    rw [hadd, run_store P w _ v _ h1, hcell]
    simp [hfro, setCell_eq_setRow w b off ⟨cs⟩ e (lo, hi) v h]
  simp only [storeVar, Sem.run_bind, ty_size w ht, hv, Result.andThen_ok]
  simp [storeCells, hst]
theorem e_storeS (hw : Ok E I O w) (hf : Fr n L a) {t : TypeId} {x y : Operand} {v : Value} {q : Nat} (hx : ev L x = some (.pointer (some (hd v q)))) {Y : Int} (hy : ev L y = some (.int .u8 Y)) {by_ : Nat} {z : List Value} (ht : tyD P t = some (false, 1, by_, z))
    (j : Nat) {A : Atom} {e : TypeId} {xs : List Int} (hO : O[j]? = some A) (h : SB A v e xs) {i : Int} (hi : 0 ≤ i ∧ i < xs.length) (hq : q = i.toNat * 1) :
    ∃ w' A', (∀ (ty : TypeId) (pos : String) (aft : Array Edge) (gd : Option (Nat × Bool)), (execOp a.eval (⟨none, .store t x y, ty, pos, aft, gd⟩ : Oper)).run P w = .ok .skip w') ∧ Ok E I (O.set j A') w' ∧ SB A' v e (xs.set i.toNat Y) := by
  obtain ⟨b, cs, cap, rfl, rfl, h1, h2, h3, h4⟩ := h
  have hb : w.heap[b]? = some (.cells ⟨cs⟩ e (cs.length, cs.length + 1)) := hw.own _ (List.mem_of_getElem? hO)
  have hil : i.toNat < xs.length := by omega
  have hq' : q = i.toNat := by omega
  subst hq'
  have hrun := run_store_mark (P := P) (off := i.toNat) (v := .int .u8 Y) ht hb rfl (by omega) (by omega)
  have hoff : hd (.slice (some ⟨b, 0, none⟩) xs.length cap) i.toNat = ⟨b, i.toNat, none⟩ := by simp [hd]
  rw [hoff] at hx
  refine ⟨w.setRow b (cs.set i.toNat (.int .u8 Y)).toArray, .blk b (.cells ⟨cs.set i.toNat (.int .u8 Y)⟩ e ((cs.set i.toNat (.int .u8 Y)).length, (cs.set i.toNat (.int .u8 Y)).length + 1)), ?_, ?_, ?_⟩
  · intro _ _ _ _
    simp [execOp, Instr.storeAt, hf.ev hx, hf.ev hy, Instr.sureAddr, hrun]
  · refine hw.step hO setRow_grown ?_ (fun c hc => .inl hc)
    rw [List.length_set]
    exact setRow_heap w b _ _ e _ hb
  · refine ⟨b, _, cap, rfl, by rw [List.length_set], by rw [List.length_set]; exact h1, by rw [List.length_set]; exact h2, by rw [List.length_set, List.length_set]; exact h3, fun k y hk => ?_⟩
    rw [List.getElem?_set] at hk ⊢
    split at hk
    · rename_i he
      subst he
      simp only [if_pos hil, Option.some.injEq] at hk
      subst hk
      rw [if_pos rfl, if_pos (by omega)]
    · rename_i he
      rw [if_neg he]
      exact h4 k y hk
end
end Go.Lf
