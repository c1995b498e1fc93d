/- Small words that the printed walks use. -/
import Derived.Test.YtckhmgglgbnaaaaU4
set_option linter.unusedVariables false
set_option linter.unusedSimpArgs false
namespace Go.Lf
open Go

/-- More rounds than any loop needs. -/
@[irreducible] def BIG : Nat := 1152921504606846976
theorem BIG_ge : 1152921504606846976 ≤ BIG := by unfold BIG; exact Nat.le_refl _
abbrev w64 (x : Int) : Int := IntKind.wrap .i64 x
abbrev wi32 (x : Int) : Int := IntKind.wrap .i32 x
abbrev wu8 (x : Int) : Int := IntKind.wrap .u8 x
abbrev wu16 (x : Int) : Int := IntKind.wrap .u16 x
abbrev wu32 (x : Int) : Int := IntKind.wrap .u32 x
abbrev wu64 (x : Int) : Int := IntKind.wrap .u64 x

theorem out_inj {α : Type} {a b : α} (h : some a = some b) : a = b := by injection h
theorem take_all {l : List Value} {m : Nat} (h : l.length = m) : l.take m = l := List.take_of_length_le (by omega)
theorem ones_nil : ∀ u ∈ ([] : List Value), u.oneCell' = true := by simp
theorem ones_cons {v : Value} {r : List Value} (h : v.oneCell' = true) (k : ∀ u ∈ r, u.oneCell' = true) : ∀ u ∈ v :: r, u.oneCell' = true := by
 intro u hu
 rcases List.mem_cons.1 hu with rfl | hu
 ·exact h
 ·exact k u hu
theorem arr_at {m : Nat} {k : IntKind} {v : Vector Int m} {cs : List Value} {off : Nat} {i : Int} (h : cs.drop off = arrC k v) (hi : 0 ≤ i ∧ i < m) : cs[off + i.toNat]? = some (.int k (vg v i)) := by
 rw [← List.getElem?_drop, h]
 exact arrC_get k v hi
theorem arr_store {m : Nat} {k : IntKind} {v : Vector Int m} {cs cs' pre : List Value} {off : Nat} {i x : Int} (h : cs = pre ++ arrC k v) (hp : pre.length = off) (h' : cs' = pre ++ arrC k (vset v i x)) (hi : 0 ≤ i ∧ i < m) : cs.take (off + i.toNat) ++ [.int k x] ++ cs.drop (off + i.toNat + 1) = cs' := by
 subst h h' hp
 rw [List.take_length_add_append, Nat.add_assoc, List.drop_length_add_append, List.append_assoc, List.append_assoc, ← arrC_set k v hi]
 simp
section
variable {α : Type} {K : EK α} {I : IH} {w : World} {E : World} {O : List Atom}
theorem row_one {v : Value} {e sz n : Nat} {cs : List Value} (hw : Ok E I O w) {i : Nat} (hO : O[i]? = some (.row v e sz n cs)) : v.oneCell' = true := by
 obtain ⟨-, h⟩ := row_form hw hO
 rcases h with ⟨rfl, _⟩ | ⟨g, cap, cur, rfl, _⟩ <;> rfl
theorem ekI_f0 {k : IntKind} {x : Int} {cs : List Value} (h : (ekI k).rel I x cs) : cs[0]? = some (.int k x) := by have h : cs = [.int k x] := h; subst h; rfl
theorem ekS_f0 {x : ByteArray} {cs : List Value} (h : ekS.rel I x cs) : cs[0]? = some (.string x) := by have h : cs = [.string x] := h; subst h; rfl
theorem ekB_f0 {x : Bool} {cs : List Value} (h : ekB.rel I x cs) : cs[0]? = some (.bool x) := by have h : cs = [.bool x] := h; subst h; rfl
theorem whole_store {x y : α} {vs : List Value} (h : K.rel I x vs) : ∀ c, K.rel I y c → K.rel I x (c.take 0 ++ vs ++ c.drop (0 + K.sz)) := by
 intro c hc
 have := K.len hc
 rw [List.take_zero, List.nil_append, List.drop_eq_nil_of_le (by omega), List.append_nil]
 exact h
/-- A slice of slices. -/
def ekL (K : EK α) : EK (List α) where
 sz := 1
 pos := by decide
 rel := fun I x cs => ∃ v, cs = [v] ∧ RS K I v x
 mono := fun hI ⟨v, h, hR⟩ => ⟨v, h, hR.mono hI⟩
 len := fun ⟨v, h, hR⟩ => by rw [h]; rfl
 one := fun ⟨v, h, hR⟩ => by subst h; exact ones_cons hR.one ones_nil
end
section
variable {P : Program} {ops : Array Oper} {Q : Exit → Act → World → Prop} {rest : List Oper} {a : Act} {w : World} {E : World} {I : IH} {O : List Atom} {n : Nat} {L : List (Nat × Value)} {ty : TypeId} {pos : String} {aft : Array Edge} {d : Nat} {gd : Option (Nat × Bool)}
theorem g_split {G : Prop} (hf : Fr n L a) {g : Nat} {b : Bool} (hg : lk L g = some (.bool b)) (ht : b = true → Fr n ((g, .bool true) :: L) a → G) (hff : b = false → Fr n ((g, .bool false) :: L) a → G) : G := by
 have key : ∀ c, b = c → Fr n ((g, .bool c) :: L) a := by
  intro c hc
  refine ⟨hf.df, hf.sz, ?_⟩
  intro t v ht
  simp only [lk] at ht
  cases hq : Nat.beq g t with
  | true =>
   rw [hq] at ht
   have : g = t := Nat.eq_of_beq_eq_true hq
   subst this
   simp at ht
   subst ht
   subst hc
   exact hf.at_ _ _ hg
  | false => rw [hq] at ht; exact hf.at_ t v ht
 cases b
 ·exact hff rfl (key _ rfl)
 ·exact ht rfl (key _ rfl)
theorem c_cutX {x : Code} (M : Act → World → Prop) (hx : x.wp P (Exit.then M Q) a w) (hy : ∀ a w, M a w → Q .normal a w) : x.wp P Q a w :=
 wp_mono hx fun e a w h => by cases e <;> first | exact hy a w h | exact h
theorem t_done {late : List Nat} {C : World → Prop} {N : Act → World → Prop} (h : N a w) : wpT P ops late C N .done a w := h
theorem wanted_undef {o : Oper} (hf : Fr n L a) {j g : Nat} {want : Bool} (hg : o.guard = some (j, want)) (hj : (ops[j]?).bind (·.dst) = some g) (hb : lk L g = some undef) : Region.wanted o (yielded ops a.tmps) = false := by
 simp only [Region.wanted, hg, yielded, hj, Option.bind_some, hf.at_ g _ hb]
 rfl
theorem o_skipU {o : Oper} (hf : Fr n L a) {j g : Nat} {want : Bool} (hg : o.guard = some (j, want)) (hj : (ops[j]?).bind (·.dst) = some g) (hb : lk L g = some undef) (hd : o.dst = some d) (hd' : Nat.blt d n = true)
  (k : ∀ a, Fr n ((d, undef) :: L) a → wpList P ops Q rest a w) : wpList P ops Q (o :: rest) a w := by
 unfold wpList
 rw [wanted_undef hf hg hj hb, if_neg (by simp), hd]
 exact k _ (hf.put hd' _)
theorem t_rdU {late : List Nat} {C : World → Prop} {N : Act → World → Prop} {i j g : Nat} {want : Bool} {t : OT} {op : Op} (hi : ops[i]? = some ⟨some d, op, ty, pos, aft, some (j, want)⟩) (hj : (ops[j]?).bind (·.dst) = some g) (hf : Fr n L a) (hb : lk L g = some undef)
  (hd : Nat.blt d n = true) (k : ∀ a, Fr n ((d, undef) :: L) a → wpT P ops late C N t a w) : wpT P ops late C N (.rd i t) a w :=
 ⟨_, undef, hi, .inr ⟨wanted_undef hf rfl hj hb, rfl⟩, k _ (hf.put hd undef)⟩
theorem e_make0 {α : Type} {K : EK α} (hw : Ok E I O w) (hf : Fr n L a) {t e by_ : Nat} {ag : Bool} {z : List Value} {l c : Operand} (ht : elD P t = some (none, e, K.sz)) (hte : tyD P e = some (ag, K.sz, by_, z)) (hby : by_ ≤ 512) {kl kc : IntKind} {N : Int} (hl : ev L l = some (.int kl 0)) (hc : ev L c = some (.int kc N))
  (hN : 0 ≤ N ∧ N ≤ 274877906944) :
  ∃ w' v, (∀ (d : Nat) (ty : TypeId) (pos : String) (aft : Array Edge) (gd : Option (Nat × Bool)), (execOp a.eval (⟨some d, .makeSlice t l c, ty, pos, aft, gd⟩ : Oper)).run P w = .ok (.value v) w') ∧ Ok E I (.row v e K.sz 0 [] :: O) w' := by
 obtain ⟨it, hu, hi1, hi2⟩ := el_slice ht
 obtain ⟨it', zv, hi1', hsz, hbb, hz, hzc⟩ := ty_info hte
 rw [hi1] at hi1'
 cases hi1'
 have hNN : ((N.toNat : Nat) : Int) = N := by omega
 have hle : N.toNat ≤ 274877906944 := by omega
 have hb1 : it.bytes * N.toNat ≤ 281474976710656 := by
  rw [hbb]
  calc by_ * N.toNat ≤ 512 * 274877906944 := Nat.mul_le_mul hby hle
   _ ≤ 281474976710656 := by decide
 obtain ⟨w', hrun, hown, hg⟩ := run_make_own (P := P) w w.heap.size t e it zv K.sz hu hi1 hz hi2 kl kc N.toNat hb1 (by simp only [maxLen]; omega) (Nat.le_refl _)
 rw [hNN] at hrun
 refine ⟨w', .slice (some ⟨w.heap.size, 0, none⟩) 0 N.toNat, fun _ _ _ _ _ => by simp [execOp, hf.ev hl, hf.ev hc, hrun], hw.new hg ?_ ?_⟩
 ·obtain ⟨q1, q2⟩ := hown
  refine ⟨q1, ?_⟩
  rcases q2 with q2 | ⟨g, cap, cur, e1, e2, e3⟩
  ·exact .inl q2
  ·exact .inr ⟨g, cap, cur, e1, Nat.zero_le _, e3⟩
 ·intro b hb
  have : w.heap.size = b := by simpa [Atom.foot, Value.ownBlock] using hb
  omega
/-- [n]int{..} -/
theorem r_buildArr (hf : Fr n L a) {t e m : Nat} {k : IntKind} {parts : List (Nat × Operand)} (ht : elD P t = some (some m, e, 1)) {sz by_ : Nat} {ag : Bool} {z : List Value} (hty : tyD P t = some (ag, sz, by_, z)) (hz : z.length = m * 1) (hp : parts.map (·.1) = List.range m) {vs : List Value} (hv : evs L (parts.map (·.2)) = some vs) {v : Vector Int m} (hvs : vs = arrC k v) :
  (execOp a.eval (⟨some d, .build t parts.toArray, ty, pos, aft, gd⟩ : Oper)).run P w = .ok (.value (.agg ⟨arrC k v⟩)) w := by
 obtain ⟨ie, hu, hi1, hi2⟩ := el_array ht
 obtain ⟨it, zv, hi, hs, hb, hzv, hzc⟩ := ty_info hty
 have hvl : vs.length = m := by rw [hvs, arrC_len]
 have hb : P.built t (parts.toArray.map fun (i, x) => (i, a.eval x)).toList = some ⟨arrC k v⟩ := by
  have h1 : (parts.toArray.map fun (i, x) => (i, a.eval x)).toList = (List.range' 0 vs.length).zip vs := by
   have h2 : (parts.toArray.map fun (i, x) => (i, a.eval x)).toList = parts.map (fun p => (p.1, a.eval p.2)) := by simp
   rw [h2, zip_map, hp, hf.evs hv, hvl, List.range_eq_range']
  rw [h1]
  simp only [Program.built, hi, hu, hzv, hi1, hzc, hi2]
  have := fill_row 1 vs 0 [] z (vs.map fun u => [u]) (by
   simp only [List.map_map]
   apply List.map_congr_left
   intro u hu'
   exact one_cells (arrC_one k v u (by rw [← hvs]; exact hu'))) (by simp) (by simp) (by rw [hz, hvl])
  simp only [List.nil_append] at this
  rw [this, ← hvs]
  have h3 : ∀ l : List Value, (l.map fun u => [u]).flatten = l := by
   intro l; induction l with
   | nil => rfl
   | cons x l ih => simp [ih]
  rw [h3]
 simp only [execOp, Sem.run_bind, run_build w t _ ⟨arrC k v⟩ hb, Result.andThen_ok, Sem.run_pure]
end
end Go.Lf
