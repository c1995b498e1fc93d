/- Rules that came later: maps from numbers to numbers; a string behind a row of bytes. -/
import Derived.Test.YtckhmgglgbnaaaaU8
import Derived.MapKept
import Derived.Lib.AppendStr
set_option linter.unusedVariables false
set_option linter.unusedSimpArgs false
namespace Go.Lf
open Go
def bytesOK (xs : List Int) : Bool := !xs.isEmpty && xs.all fun x => decide (0 ≤ x) && decide (x < 256)
/-! ### Maps as lists -/
def mfind : List (Int × Int) → Int → Option Int
 | [], _ => none
 | (a, b) :: r, k => if a = k then some b else mfind r k
def mget (m : List (Int × Int)) (k : Int) : Int := (mfind m k).getD 0
def mhas (m : List (Int × Int)) (k : Int) : Bool := (mfind m k).isSome
def mput : List (Int × Int) → Int → Int → List (Int × Int)
 | [], k, v => [(k, v)]
 | (a, b) :: r, k, v => if a = k then (k, v) :: r else (a, b) :: mput r k v
def mdel : List (Int × Int) → Int → List (Int × Int)
 | [], _ => []
 | (a, b) :: r, k => if a = k then r else (a, b) :: mdel r k
def MapR (es : Array MapEntry) (clk : Nat) (m : List (Int × Int)) : Prop := es.toList.map (fun e => (e.key, e.val)) = m.map (fun p => (Value.int .i64 p.1, Value.int .i64 p.2)) ∧ MapKept.Stamped es clk
theorem MapR.nil : MapR #[] 0 [] := ⟨rfl, MapKept.stamped_empty 0⟩
theorem find_m {k : Int} : ∀ (l : List MapEntry) (m : List (Int × Int)) (i : Nat), l.map (fun e => (e.key, e.val)) = m.map (fun p => (Value.int .i64 p.1, Value.int .i64 p.2)) →
  (mfind m k = none ∧ Instr.findNow (.int .i64) (.int .i64 k) l i = some none) ∨ ∃ j v, mfind m k = some v ∧ Instr.findNow (.int .i64) (.int .i64 k) l i = some (some (i + j, .int .i64 v)) ∧ ∃ e, l[j]? = some e ∧ e.key = .int .i64 k
 | [], [], i, _ => .inl ⟨rfl, rfl⟩
 | [], _ :: _, i, h => by simp at h
 | _ :: _, [], i, h => by simp at h
 | e :: l, (a, b) :: m, i, h => by
  simp only [List.map_cons, List.cons.injEq, Prod.mk.injEq] at h
  obtain ⟨⟨h1, h2⟩, h3⟩ := h
  by_cases hk : a = k
  ·subst hk
   refine .inr ⟨0, b, by simp [mfind], ?_, e, rfl, h1⟩
   simp [Instr.findNow, h1, h2, Instr.sameNow]
  ·have hs : Instr.sameNow (.int .i64) (.int .i64 k) e.key = some false := by
    rw [h1]
    simp [Instr.sameNow]
    exact fun h => hk h.symm
   rcases find_m l m (i + 1) h3 with ⟨g1, g2⟩ | ⟨j, v, g1, g2, e', g3, g4⟩
   ·exact .inl ⟨by rw [mfind, if_neg hk, g1], by simp only [Instr.findNow, hs]; exact g2⟩
   ·exact .inr ⟨j + 1, v, by rw [mfind, if_neg hk, g1], by simp only [Instr.findNow, hs]; rw [g2]; congr 3; omega, e', by simpa using g3, g4⟩
theorem put_new {k v : Int} : ∀ {m : List (Int × Int)}, mfind m k = none → mput m k v = m ++ [(k, v)]
 | [], _ => rfl
 | (a, b) :: m, h => by
  rw [mfind] at h
  split at h
  ·cases h
  ·rename_i hne
   rw [mput, if_neg hne, put_new h]
   rfl
theorem nokey {k : Int} : ∀ (l : List MapEntry) (m : List (Int × Int)), l.map (fun e => (e.key, e.val)) = m.map (fun p => (Value.int .i64 p.1, Value.int .i64 p.2)) → mfind m k = none → ∀ e ∈ l, e.key ≠ .int .i64 k
 | [], _, _, _, e, he => by cases he
 | x :: l, [], h, _, e, he => by simp at h
 | x :: l, (a, b) :: m, h, hn, e, he => by
  simp only [List.map_cons, List.cons.injEq, Prod.mk.injEq] at h
  obtain ⟨⟨h1, h2⟩, h3⟩ := h
  rw [mfind] at hn
  split at hn
  ·cases hn
  ·rename_i hne
   rcases List.mem_cons.mp he with rfl | he
   ·rw [h1]
    exact fun e => hne (by injection e)
   ·exact nokey l m h3 hn e he
/-- The entry of a key is turned. -/
theorem put_old {k v : Int} {f : MapEntry → MapEntry} (hf1 : ∀ e, (f e).key = .int .i64 k) (hf2 : ∀ e, (f e).val = .int .i64 v) : ∀ (l : List MapEntry) (m : List (Int × Int)) (i j : Nat) (w : Value), l.map (fun e => (e.key, e.val)) = m.map (fun p => (Value.int .i64 p.1, Value.int .i64 p.2)) → Instr.findNow (.int .i64) (.int .i64 k) l i = some (some (i + j, w)) →
  (l.modify j f).map (fun e => (e.key, e.val)) = (mput m k v).map (fun p => (Value.int .i64 p.1, Value.int .i64 p.2))
 | [], m, i, j, w, _, h => by simp [Instr.findNow] at h
 | x :: l, [], i, j, w, h, _ => by simp at h
 | x :: l, (a, b) :: m, i, j, w, h, hf => by
  simp only [List.map_cons, List.cons.injEq, Prod.mk.injEq] at h
  obtain ⟨⟨h1, h2⟩, h3⟩ := h
  by_cases hk : a = k
  ·subst hk
   have h0 : Instr.findNow (.int .i64) (.int .i64 a) (x :: l) i = some (some (i, x.val)) := by simp [Instr.findNow, h1, Instr.sameNow]
   rw [h0] at hf
   have hj : j = 0 := by simp at hf; omega
   subst hj
   simp [mput, hf1, hf2, h3]
  ·have hs : Instr.sameNow (.int .i64) (.int .i64 k) x.key = some false := by
    rw [h1]
    simp [Instr.sameNow]
    exact fun h => hk h.symm
   simp only [Instr.findNow, hs] at hf
   cases j with
   | zero =>
    exfalso
    rcases find_m (k := k) l m (i + 1) h3 with ⟨g1, g2⟩ | ⟨j, v, g1, g2, -⟩
    ·rw [g2] at hf; simp at hf
    ·rw [g2] at hf; simp at hf; omega
   | succ j =>
    have := put_old hf1 hf2 l m (i + 1) j w h3 (by rw [hf]; congr 3; omega)
    rw [mput, if_neg hk, List.map_cons, ← this]
    simp [h1, h2]
section
variable {P : Program} {ops : Array Oper} {E : World} {I : IH} {O : List Atom} {w : World} {n : Nat} {L : List (Nat × Value)} {a : Act} {ty : TypeId} {pos : String} {aft : Array Edge} {d : Nat} {gd : Option (Nat × Bool)}
theorem e_makeMap (hw : Ok E I O w) {t : TypeId} :
  ∃ b w', (∀ (d : Nat) (ty : TypeId) (pos : String) (aft : Array Edge) (gd : Option (Nat × Bool)), (execOp a.eval (⟨some d, .makeMap t none, ty, pos, aft, gd⟩ : Oper)).run P w = .ok (.value (.map (some b))) w') ∧ Ok E I (.blk b (.map #[] 0) :: O) w' :=
 ⟨w.heap.size, { w with heap := w.heap.push (.map #[] 0) }, fun _ _ _ _ _ => by simp [execOp, Instr.makeMap], blk_new hw _⟩
theorem run_lookup {t kt : TypeId} (hm : P.underlying t = some (.map kt kt)) (hk : P.underlying kt = some (.int .i64)) (hz : ((P.info? kt).bind fun i => i.zero) = some (.int .i64 0)) {r : Nat} {es : Array MapEntry} {clk : Nat} {m : List (Int × Int)} (hb : w.heap[r]? = some (.map es clk)) (hR : MapR es clk m) (k : Int) (c : Bool) :
  (Instr.lookup t (.map (some r)) (.int .i64 k) c).run P w = .ok (if c then .tuple #[.int .i64 (mget m k), .bool (mhas m k)] else .int .i64 (mget m k)) w := by
 have hz' : (zeroValue kt).run P w = .ok (.int .i64 0) w := by
  cases hi : P.info? kt with
  | none => simp [hi] at hz
  | some i =>
   simp [hi] at hz
   simp [zeroValue, typeInfo, hi, hz]
 have hck := MapKept.run_checkKey (w := w) hk (show MapKept.IsKey (.int .i64) (.int .i64 k) from rfl) es.isEmpty 9999
 rcases find_m (k := k) es.toList m 0 hR.1 with ⟨g1, g2⟩ | ⟨j, v, g1, g2, e', g3, g4⟩
 ·have hfk := MapKept.run_findKey (w := w) hk g2
  simp only [Instr.lookup, Sem.run_bind, run_underlying hm, Result.andThen_ok, MapKept.run_getObj_map hb, Sem.run_pure, hck, hfk, hz', mget, mhas, g1]
  cases c <;> rfl
 ·have hfk := MapKept.run_findKey (w := w) hk g2
  simp only [Instr.lookup, Sem.run_bind, run_underlying hm, Result.andThen_ok, MapKept.run_getObj_map hb, Sem.run_pure, hck, hfk, mget, mhas, g1]
  cases c <;> rfl
theorem r_lookupT (hw : Ok E I O w) (hf : Fr n L a) {t kt : TypeId} {x y : Operand} {r : Nat} {k : Int} (hx : ev L x = some (.map (some r))) (hy : ev L y = some (.int .i64 k)) (hm : P.underlying t = some (.map kt kt)) (hk : P.underlying kt = some (.int .i64)) (hz : ((P.info? kt).bind fun i => i.zero) = some (.int .i64 0))
  (i : Nat) {es : Array MapEntry} {clk : Nat} {m : List (Int × Int)} (hO : O[i]? = some (.blk r (.map es clk))) (hR : MapR es clk m) :
  (execOp a.eval (⟨some d, .lookup t x y true, ty, pos, aft, gd⟩ : Oper)).run P w = .ok (.value (.tuple ⟨[.int .i64 (mget m k), .bool (mhas m k)]⟩)) w := by
 have := run_lookup (P := P) hm hk hz (own_blk hw hO) hR k true
 simp only [execOp, hf.ev hx, hf.ev hy, Sem.run_bind, this, Result.andThen_ok, Sem.run_pure]
 rfl
theorem map_step (hw : Ok E I O w) {i r : Nat} {es es' : Array MapEntry} {clk clk' : Nat} (hO : O[i]? = some (.blk r (.map es clk))) : Ok E I (O.set i (.blk r (.map es' clk'))) { w with heap := w.heap.setIfInBounds r (.map es' clk') } := by
 have hb := own_blk hw hO
 obtain ⟨h1, h2⟩ := MapKept.heap_set (o' := .map es' clk') hb
 refine hw.step hO ⟨rfl, rfl, rfl, by simp, fun k hk hne => h2 k (fun e => hne (by rw [e]; rfl))⟩ h1 (fun b hb => .inl hb)
theorem e_mapUpdate (hw : Ok E I O w) (hf : Fr n L a) {t kt : TypeId} {x y z : Operand} {r : Nat} {k v : Int} (hx : ev L x = some (.map (some r))) (hy : ev L y = some (.int .i64 k)) (hv : ev L z = some (.int .i64 v)) (hm : P.underlying t = some (.map kt kt)) (hk : P.underlying kt = some (.int .i64))
  (i : Nat) {es : Array MapEntry} {clk : Nat} {m : List (Int × Int)} (hO : O[i]? = some (.blk r (.map es clk))) (hR : MapR es clk m) :
  ∃ w' es' clk', (∀ (ty : TypeId) (pos : String) (aft : Array Edge) (gd : Option (Nat × Bool)), (execOp a.eval (⟨none, .mapUpdate t x y z, ty, pos, aft, gd⟩ : Oper)).run P w = .ok .skip w') ∧ Ok E I (O.set i (.blk r (.map es' clk'))) w' ∧ MapR es' clk' (mput m k v) := by
 have hb := own_blk hw hO
 have hkk : MapKept.IsKey (.int .i64) (.int .i64 k) := rfl
 have hck := MapKept.run_checkKey (w := w) hk hkk false 9999
 rcases find_m (k := k) es.toList m 0 hR.1 with ⟨g1, g2⟩ | ⟨j, u, g1, g2, e', g3, g4⟩
 ·have hfk := MapKept.run_findKey (w := w) hk g2
  refine ⟨_, _, _, ?_, map_step hw (es' := es.push { key := .int .i64 k, val := .int .i64 v, born := clk }) (clk' := clk + 1) hO, ?_, MapKept.stamped_push hR.2 (nokey es.toList m hR.1 g1)⟩
  ·intro _ _ _ _
   simp [execOp, hf.ev hx, hf.ev hy, hf.ev hv, Instr.mapUpdate, run_underlying hm, MapKept.run_getObj_map hb, hck, hfk, MapKept.run_setObj_map _ hb]
  ·rw [put_new g1]
   simp [hR.1]
 ·have hfk := MapKept.run_findKey (w := w) hk g2
  rw [Nat.zero_add] at g2 hfk
  have hej : es[j]? = some e' := by simpa using g3
  refine ⟨_, _, _, ?_, map_step hw (es' := es.modify j fun e => { e with key := .int .i64 k, val := .int .i64 v }) (clk' := clk) hO, ?_, ?_⟩
  ·intro _ _ _ _
   simp [execOp, hf.ev hx, hf.ev hy, hf.ev hv, Instr.mapUpdate, run_underlying hm, MapKept.run_getObj_map hb, hck, hfk, hej, g4, MapKept.run_keyThatStays hkk, MapKept.run_setObj_map _ hb]
  ·have := put_old (k := k) (v := v) (f := fun e => { e with key := .int .i64 k, val := .int .i64 v }) (fun _ => rfl) (fun _ => rfl) es.toList m 0 j _ hR.1 (by rw [Nat.zero_add]; exact g2)
   rw [← this]
   simp
  ·exact MapKept.stamped_modify hR.2 _ _ (fun _ _ => rfl) (fun e he h => by rw [hej] at h; cases h; exact g4.symm)
/-! ### A string behind a row of bytes -/
theorem strCells_rows (I : IH) (s : ByteArray) : RowR (ekI .u8) I (Lib.strCells s) (nums s) := by
 refine ⟨by rw [Lib.strCells_length, nums_len]; show _ = _ * 1; omega, fun i x hx => ?_⟩
 show ((Lib.strCells s).drop (i * 1)).take 1 = [Value.int .u8 x]
 rw [Nat.mul_one]
 have hi : i < (nums s).length := (List.getElem?_eq_some_iff.mp hx).1
 unfold nums at hx
 rw [List.getElem?_map] at hx
 cases hd : s.data.toList[i]? with
 | none => rw [hd] at hx; cases hx
 | some b =>
  rw [hd] at hx
  simp only [Option.map_some, Option.some.injEq] at hx
  have h2 : (Lib.strCells s)[i]? = some (.int .u8 x) := by
   unfold Lib.strCells
   rw [List.getElem?_map, hd]
   simp [← hx]
  have h3 : i < (Lib.strCells s).length := (List.getElem?_eq_some_iff.mp h2).1
  rw [List.drop_eq_getElem_cons h3, List.take_succ_cons, List.take_zero]
  rw [List.getElem?_eq_getElem h3] at h2
  injection h2 with h2
  rw [h2]
theorem e_appendS (hw : Ok E I O w) (hf : Fr n L a) {s x : Operand} {t u e : TypeId} (ht : P.underlying t = some (.slice e)) (hu : P.underlying u = some .string) (hte : tyD P e = some (false, 1, 1, [.int .u8 0])) (hz : ((P.info? e).bind fun i => i.zero) = some (.int .u8 0))
  (j : Nat) {v : Value} {m : Nat} {cs : List Value} {xs : List Int} {str : ByteArray} (hs : ev L s = some v) (hx : ev L x = some (.string str)) (hO : O[j]? = some (.row v e 1 m cs)) (hR : RowR (ekI .u8) I cs xs) (hb : xs.length + str.size ≤ 274877906944) :
  ∃ w' v' m' cs', (∀ (d : Nat) (pos : String) (aft : Array Edge) (gd : Option (Nat × Bool)), (execOp a.eval (⟨some d, .call { callee := .builtin .append, args := #[s, x], argTypes := #[t, u] }, ty, pos, aft, gd⟩ : Oper)).run P w = .ok (.value v') w') ∧ Ok E I (O.set j (.row v' e 1 m' cs')) w' ∧ RowR (ekI .u8) I cs' (xs ++ nums str) := by
 obtain ⟨it, zv, hi1, hsz, hbb, hzz, hzc⟩ := ty_info hte
 have hz1 : it.zero = some (.int .u8 0) := by simpa [hi1] using hz
 have hown := row_form hw hO
 have hm : m = xs.length := row_len (K := ekI .u8) hw hO hR
 have h63 : m + str.size ≤ maxLen := by simp only [maxLen]; omega
 have hR' : RowR (ekI .u8) I (cs ++ Lib.strCells str) (xs ++ nums str) := hR.append (strCells_rows I str)
 have base : v.ownBlock = none ∨ ∃ b, v.ownBlock = some b := by cases v.ownBlock <;> simp
 have run_of : ∀ {v' w'}, (Builtin.append_ #[t, u] ty #[v, .string str]).run P w = .ok v' w' → ∀ (d : Nat) (pos : String) (aft : Array Edge) (gd : Option (Nat × Bool)), (execOp a.eval (⟨some d, .call { callee := .builtin .append, args := #[s, x], argTypes := #[t, u] }, ty, pos, aft, gd⟩ : Oper)).run P w = .ok (.value v') w' := by
  intro v' w' h _ _ _ _
  simp [execOp, resolve, invoke, builtin, hf.ev hs, hf.ev hx, h]
 rcases hown.2 with ⟨rfl, h0⟩ | ⟨g, cap, cur, rfl, hbg, hg', hnc, hcm, hcs, htk⟩
 ·obtain ⟨v', w', hrun, hown', hg, -⟩ := Lib.run_append_own_string (P := P) w w.heap.size t u ty e it ht hu hi1 hz1 hsz hbb (.slice none 0 0) m cs ⟨hown.1, .inl ⟨rfl, h0⟩⟩ str h63 (by omega) (Nat.le_refl _)
  refine ⟨w', v', m + str.size, cs ++ Lib.strCells str, run_of hrun, ?_, hR'⟩
  refine hw.step hO hg ?_ ?_
  ·obtain ⟨q1, q2⟩ := hown'
   refine ⟨q1, ?_⟩
   rcases q2 with q2 | ⟨g, cap, cur, e1, e2, e3⟩
   ·exact .inl q2
   ·exact .inr ⟨g, cap, cur, e1, Nat.zero_le _, e3⟩
  ·intro b hb'
   right
   exact (World.ownsRow.lt hown' b hb').1
 ·by_cases hroom : m + str.size ≤ cap
  ·obtain ⟨v', w', hrun, hown', hg, -⟩ := Lib.run_append_own_string (P := P) w 0 t u ty e it ht hu hi1 hz1 hsz hbb _ m cs hown str h63 (by omega) (Nat.zero_le _)
   have hcap : m + str.size ≤ cur.size := by rw [hcs]; omega
   have hr := Lib.run_append_room_string (P := P) w t u ty e it ht hu hi1 hsz g m cap cur hg' str hroom hcap
   have hv' : v' = .slice (some ⟨g, 0, none⟩) (m + str.size) cap := by
    rw [hr] at hrun
    injection hrun with h1 h2
    exact h1.symm
   refine ⟨w', v', m + str.size, cs ++ Lib.strCells str, run_of hrun, hw.step hO hg hown' ?_, hR'⟩
   intro b hb'
   left
   rw [hv'] at hb'
   exact hb'
  ·obtain ⟨v', w', hrun, hown', hg, -⟩ := Lib.run_append_own_string (P := P) w 0 t u ty e it ht hu hi1 hz1 hsz hbb _ m cs hown str h63 (by omega) (Nat.zero_le _)
   have holds : ∀ j u, cs[j]? = some u → w.cell? ((⟨g, 0, none⟩ : Addr).add j) = some u := hown.cells (g := g) rfl
   have hr := Lib.run_append_grow_string (P := P) w t u ty e it _ ht hu hi1 hz1 ⟨g, 0, none⟩ m cap cs (by rw [hsz]; exact hown.1) holds str (by omega) (by simp only [maxLen] at h63; omega) (growslice_fits (by omega) (by rw [hbb]; omega))
   have hv' : v' = .slice (some ⟨w.heap.size, 0, none⟩) (m + str.size) (grownCap w (m + str.size) cap e) := by
    rw [hr] at hrun
    injection hrun with h1 h2
    exact h1.symm
   refine ⟨w', v', m + str.size, cs ++ Lib.strCells str, run_of hrun, hw.step hO hg hown' ?_, hR'⟩
   intro b hb'
   right
   rw [hv'] at hb'
   have : w.heap.size = b := by simpa [Atom.foot, Value.ownBlock] using hb'
   omega
end
end Go.Lf
