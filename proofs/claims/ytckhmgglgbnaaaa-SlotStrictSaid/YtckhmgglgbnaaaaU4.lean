/- Regions whose order is drawn: a walk in one order serves all, where what reads is told in every world that may come. -/
import Derived.Test.YtckhmgglgbnaaaaU3
import Derived.Still
set_option linter.unusedVariables false
set_option linter.unusedSimpArgs false
namespace Go.Lf
open Go

inductive OT where
  | done
  | rd (i : Nat) (t : OT)
  | ef (i : Nat) (t : OT)
  | ef2 (i : Nat) (t : OT) (j : Nat) (u : OT)
  | ef3 (i : Nat) (t : OT) (j : Nat) (u : OT) (k : Nat) (v : OT)

section
variable {P : Program} {ops : Array Oper}

def uponK (P : Program) (o : Oper) (a : Act) (next : Act → World → Prop) : Result Next → Prop
  | .ok (.value v) w' => next (a.put o.dst v) w'
  | .ok .skip w' => next (a.put o.dst undef) w'
  | .ok (.enter f args) w' => Calls P f args w' fun e w'' => ∃ v, e = .returned v ∧ next (a.put o.dst v) w''
  | _ => False
def opK (P : Program) (ops : Array Oper) (i : Nat) (next : Act → World → Prop) (a : Act) (w : World) : Prop :=
  match ops[i]? with
  | none => False
  | some o => if Region.wanted o (yielded ops a.tmps) then uponK P o a next ((execOp a.eval o).run P w) else next (a.put o.dst undef) w
def YieldsC (P : Program) (ops : Array Oper) (C : World → Prop) (o : Oper) (v : Value) (a : Act) : Prop :=
  (Region.wanted o (yielded ops a.tmps) = true ∧ ∀ w, C w → (execOp a.eval o).run P w = .ok (.value v) w) ∨ (Region.wanted o (yielded ops a.tmps) = false ∧ v = undef)
def wpT (P : Program) (ops : Array Oper) (late : List Nat) (C : World → Prop) (N : Act → World → Prop) : OT → Act → World → Prop
  | .done, a, w => N a w
  | .rd i t, a, w => ∃ o v, ops[i]? = some o ∧ YieldsC P ops C o v a ∧ wpT P ops late C N t (a.put o.dst v) w
  | .ef i t, a, w => opK P ops i (fun a' w' => (late.contains i = true ∨ C w') ∧ wpT P ops late C N t a' w') a w
  | .ef2 i t j u, a, w => opK P ops i (fun a' w' => (late.contains i = true ∨ C w') ∧ wpT P ops late C N t a' w') a w ∧ opK P ops j (fun a' w' => (late.contains j = true ∨ C w') ∧ wpT P ops late C N u a' w') a w
  | .ef3 i t j u k v, a, w => opK P ops i (fun a' w' => (late.contains i = true ∨ C w') ∧ wpT P ops late C N t a' w') a w ∧ opK P ops j (fun a' w' => (late.contains j = true ∨ C w') ∧ wpT P ops late C N u a' w') a w ∧ opK P ops k (fun a' w' => (late.contains k = true ∨ C w') ∧ wpT P ops late C N v a' w') a w
def lateWaits (md : Region.Mode) (ops : Array Oper) (late : List Nat) (listed : Array Bool) (i : Nat) : Bool :=
  !late.contains i && late.all fun j => listed.getD j true || ((ops[j]?).map fun o => o.after.any fun e => Region.binds md e && e.on == i).getD false
def okT (md : Region.Mode) (ops : Array Oper) (late : List Nat) : Nat → Bool → OT → Array Bool → Bool
  | 0, _, .done, l => (Region.ready md ops l).isEmpty
  | n + 1, c, .rd i t, l => c && (Region.ready md ops l).contains i && Region.free md ops l i && lateWaits md ops late l i && okT md ops late n c t (l.setIfInBounds i true)
  | n + 1, c, .ef i t, l => (Region.ready md ops l == [i]) && okT md ops late n (c && !late.contains i) t (l.setIfInBounds i true)
  | n + 1, c, .ef2 i t j u, l => (Region.ready md ops l == [i, j]) && okT md ops late n (c && !late.contains i) t (l.setIfInBounds i true) && okT md ops late n (c && !late.contains j) u (l.setIfInBounds j true)
  | n + 1, c, .ef3 i t j u k v, l => (Region.ready md ops l == [i, j, k]) && okT md ops late n (c && !late.contains i) t (l.setIfInBounds i true) && okT md ops late n (c && !late.contains j) u (l.setIfInBounds j true) && okT md ops late n (c && !late.contains k) v (l.setIfInBounds k true)
  | _, _, _, _ => false
def wpAnyK (P : Program) (md : Region.Mode) (ops : Array Oper) (late : List Nat) (C : World → Prop) (N : Act → World → Prop) : Nat → Array Bool → Act → World → Prop
  | 0, listed, a, w => Region.ready md ops listed = [] ∧ N a w
  | fuel + 1, listed, a, w => (Region.ready md ops listed = [] → N a w) ∧
    ∀ i ∈ Region.ready md ops listed, opK P ops i (fun a' w' => (late.contains i = true ∨ C w') ∧ wpAnyK P md ops late C N fuel (listed.setIfInBounds i true) a' w') a w

theorem uponK_mono {o : Oper} {a : Act} {K K' : Act → World → Prop} (h : ∀ a w, K a w → K' a w) {r : Result Next} (hh : uponK P o a K r) : uponK P o a K' r := by
  cases r with
  | ok x w' =>
    cases x <;> simp only [uponK] at hh ⊢ <;> first
      | exact h _ _ hh
      | exact hh.mono fun e w'' ⟨v, he, hv⟩ => ⟨v, he, h _ _ hv⟩
      | exact hh
  | halt x w' => simp only [uponK] at hh
theorem opK_mono {i : Nat} {a : Act} {w : World} {K K' : Act → World → Prop} (h : ∀ a w, K a w → K' a w) (hh : opK P ops i K a w) : opK P ops i K' a w := by
  unfold opK at *
  cases ho : ops[i]? with
  | none => simp only [ho] at hh
  | some o =>
    simp only [ho] at hh ⊢
    split
    · rename_i hw; simp only [hw, if_true] at hh; exact uponK_mono h hh
    · rename_i hw; simp only [hw] at hh; exact h _ _ hh
theorem wp_of_K {i : Nat} {a : Act} {w : World} {K : Act → World → Prop} {Q : Exit → Act → World → Prop} (hh : opK P ops i K a w) : wpOp P ops Q i K a w := by
  unfold opK at hh
  unfold wpOp
  split at hh
  · exact hh.elim
  · rename_i o ho
    simp only [ho]
    split at hh
    · rename_i hw
      simp only [hw, if_true]
      left
      unfold Oper.wp
      generalize (execOp a.eval o).run P w = r at *
      cases r with
      | ok x w' =>
        cases x <;> simp only [uponK] at hh <;> simp only [Oper.upon] <;> first
          | exact hh
          | (refine hh.mono ?_
             rintro e w'' ⟨v, rfl, hv⟩
             exact hv)
          | exact hh.elim
      | halt x w' => simp only [uponK] at hh
    · rename_i hw; simp only [hw]; exact hh
theorem wpAny_of_K {md : Region.Mode} {late : List Nat} {C : World → Prop} {N : Act → World → Prop} {Q : Exit → Act → World → Prop} (hN : ∀ a w, N a w → Q .normal a w) : ∀ (fuel : Nat) (listed : Array Bool) (a : Act) (w : World),
    wpAnyK P md ops late C N fuel listed a w → wpAny P md ops Q fuel listed a w
  | 0, _, _, _, h => ⟨h.1, hN _ _ h.2⟩
  | fuel + 1, _, _, _, h => ⟨fun h0 => hN _ _ (h.1 h0), fun i hi => wp_of_K (opK_mono (fun a' w' h' => wpAny_of_K hN fuel _ a' w' h'.2) (h.2 i hi))⟩
theorem YieldsC.of_same {C : World → Prop} {o : Oper} {v : Value} {a a' : Act} (hy : YieldsC P ops C o v a) (he : execOp a'.eval o = execOp a.eval o) (hw : Region.wanted o (yielded ops a'.tmps) = Region.wanted o (yielded ops a.tmps)) : YieldsC P ops C o v a' := by
  unfold YieldsC at *
  rw [he, hw]
  exact hy
theorem YieldsC.opK {C : World → Prop} {i : Nat} {o : Oper} {v : Value} {a : Act} {w : World} (hi : ops[i]? = some o) (hC : C w) (hy : YieldsC P ops C o v a) {K : Act → World → Prop} (h : K (a.put o.dst v) w) : opK P ops i K a w := by
  unfold Lf.opK
  simp only [hi]
  rcases hy with ⟨hw, hv⟩ | ⟨hw, rfl⟩
  · simp only [hw, if_true, hv w hC, uponK]; exact h
  · simp only [hw, Bool.false_eq_true, if_false]; exact h
theorem opK_put {C : World → Prop} {j : Nat} {oi oj : Oper} {v : Value} (hj : ops[j]? = some oj) (hap : oi.apart ops oj = true)
    (hsi : ∀ cs b, oi.op ≠ .select cs b) (hsj : ∀ cs b, oj.op ≠ .select cs b) {K : Act → World → Prop} {a : Act} {w : World}
    (hy : YieldsC P ops C oi v a) (h : opK P ops j K (a.put oi.dst v) w) : opK P ops j (fun a' w' => YieldsC P ops C oi v a' ∧ K (a'.put oi.dst v) w') a w := by
  obtain ⟨h1, h2, h3⟩ := Oper.apart_spec hap
  have keep : ∀ u, YieldsC P ops C oi v (a.put oj.dst u) := fun u => hy.of_same (execOp_put oi hsi a oj.dst u h3) (wanted_put oi a oj.dst u h3)
  unfold opK at *
  simp only [hj] at *
  rw [wanted_put oj a oi.dst v h1] at h
  split
  · rename_i hw
    simp only [hw, if_true] at h
    rw [execOp_put oj hsj a oi.dst v h1] at h
    generalize (execOp a.eval oj).run P w = r at *
    cases r with
    | ok n w' =>
      cases n <;> simp only [uponK] at h ⊢
      case value u => exact ⟨keep u, by rw [← Act.put_comm a v u h2]; exact h⟩
      case skip => exact ⟨keep _, by rw [← Act.put_comm a v undef h2]; exact h⟩
      case enter f args => exact h.mono fun e w'' ⟨u, he, hu⟩ => ⟨u, he, keep u, by rw [← Act.put_comm a v u h2]; exact hu⟩
    | halt x w' => simp only [uponK] at h
  · rename_i hw
    simp only [hw] at h
    exact ⟨keep _, by rw [← Act.put_comm a v undef h2]; exact h⟩
theorem lateWaits_spec {md : Region.Mode} {late : List Nat} {listed : Array Bool} {i : Nat} (h : lateWaits md ops late listed i = true) : late.contains i = false ∧ ∀ j, late.contains j = true → listed.getD j true = false → ∃ o, ops[j]? = some o ∧ ∃ e ∈ o.after, Region.binds md e = true ∧ e.on = i := by
  unfold lateWaits at h
  simp only [Bool.and_eq_true, Bool.not_eq_true', List.all_eq_true, Bool.or_eq_true] at h
  refine ⟨h.1, fun j hj hl => ?_⟩
  rcases h.2 j (by simpa using hj) with h1 | h1
  · rw [hl] at h1; cases h1
  · cases ho : ops[j]? with
    | none => simp [ho] at h1
    | some o =>
      simp only [ho, Option.map_some, Option.getD_some, Array.any_eq_true'] at h1
      obtain ⟨e, he, hb⟩ := h1
      simp only [Bool.and_eq_true, beq_iff_eq] at hb
      exact ⟨o, rfl, e, he, hb.1, hb.2⟩

theorem wpAnyK_first {md : Region.Mode} {late : List Nat} {C : World → Prop} {N : Act → World → Prop} {i : Nat} {oi : Oper} {v : Value} (hi : ops[i]? = some oi) (hsel : ∀ (j : Nat) (o : Oper) cs b, ops[j]? = some o → o.op ≠ .select cs b) (hli : late.contains i = false) :
    ∀ (fuel : Nat) (listed : Array Bool) (a : Act) (w : World),
      (∀ j oj, ops[j]? = some oj → j ≠ i → listed.getD j true = false → (∀ e ∈ oj.after, Region.binds md e = true → e.on ≠ i) → oi.apart ops oj = true) →
      (∀ j, late.contains j = true → listed.getD j true = false → ∃ o, ops[j]? = some o ∧ ∃ e ∈ o.after, Region.binds md e = true ∧ e.on = i) →
      i ∈ Region.ready md ops listed → C w → YieldsC P ops C oi v a →
      wpAnyK P md ops late C N fuel (listed.setIfInBounds i true) (a.put oi.dst v) w → wpAnyK P md ops late C N (fuel + 1) listed a w := by
  intro fuel
  induction fuel with
  | zero =>
    intro listed a w _ _ hr hC hy H
    refine ⟨fun h => (by rw [h] at hr; cases hr), fun j hj => ?_⟩
    by_cases hji : j = i
    · subst hji; exact hy.opK hi hC ⟨.inr hC, H⟩
    · have := ready_mono hj hji
      rw [H.1] at this
      cases this
  | succ fuel ih =>
    intro listed a w hfree hlate hr hC hy H
    refine ⟨fun h => (by rw [h] at hr; cases hr), fun j hj => ?_⟩
    by_cases hji : j = i
    · subst hji; exact hy.opK hi hC ⟨.inr hC, H⟩
    · have h1 := H.2 j (ready_mono hj hji)
      obtain ⟨hjun, oj, hoj, hall⟩ := mem_ready.1 hj
      have hnot : ∀ e ∈ oj.after, Region.binds md e = true → e.on ≠ i := fun e he hb heq => by
        have h1 := hall e he hb
        have h0 := (mem_ready.1 hr).1
        rw [heq] at h1
        rcases Nat.lt_or_ge i listed.size with h' | h'
        · simp [h'] at h0 h1; rw [h0] at h1; cases h1
        · simp [Array.getElem?_eq_none h'] at h1
      have hjl : late.contains j = false := by
        cases hq : late.contains j with
        | false => rfl
        | true =>
          obtain ⟨o, ho, e, he, hb, hon⟩ := hlate j hq hjun
          rw [hoj] at ho
          cases ho
          exact absurd hon (hnot e he hb)
      have h2 := opK_put hoj (hfree j oj hoj hji hjun hnot) (fun cs b => hsel i oi cs b hi) (fun cs b => hsel j oj cs b hoj) hy h1
      have hun : ∀ k, (listed.setIfInBounds j true).getD k true = false → listed.getD k true = false := fun k hk => by
        by_cases hjk : j = k
        · subst hjk; exact hjun
        · rw [getD_set_ne true hjk] at hk; exact hk
      refine opK_mono (fun a' w' h3 => ?_) h2
      obtain ⟨h4, h5, h6⟩ := h3
      have hC' : C w' := by
        rcases h5 with h5 | h5
        · rw [hjl] at h5; cases h5
        · exact h5
      refine ⟨.inr hC', ih (listed.setIfInBounds j true) a' w' (fun k ok hk hki hu hno => hfree k ok hk hki (hun k hu) hno) (fun k hk hu => hlate k hk (hun k hu)) (ready_mono hr (Ne.symm hji)) hC' h4 ?_⟩
      rw [Array.setIfInBounds_comm _ _ hji]
      exact h6
theorem wpT_sound {md : Region.Mode} {late : List Nat} {C : World → Prop} {N : Act → World → Prop} (hs : Region.noSelect ops = true) : ∀ (fuel : Nat) (c : Bool) (t : OT) (listed : Array Bool) (a : Act) (w : World),
    okT md ops late fuel c t listed = true → (c = true → C w) → wpT P ops late C N t a w → wpAnyK P md ops late C N fuel listed a w := by
  intro fuel
  induction fuel with
  | zero =>
    intro c t listed a w hk hC h
    cases t <;> simp only [okT, Bool.false_eq_true] at hk
    exact ⟨by simpa using hk, h⟩
  | succ fuel ih =>
    intro c t listed a w hk hC h
    cases t with
    | done => simp [okT] at hk
    | rd i t =>
      simp only [okT, Bool.and_eq_true] at hk
      obtain ⟨⟨⟨⟨hc, hr⟩, hf⟩, hl⟩, hk⟩ := hk
      obtain ⟨o, v, ho, hy, hT⟩ := h
      obtain ⟨hl1, hl2⟩ := lateWaits_spec hl
      exact wpAnyK_first ho (Region.noSelect_spec hs) hl1 fuel listed a w (Region.free_spec ho hf) hl2 (by simpa using hr) (hC hc) hy (ih c t _ _ w hk hC hT)
    | ef i t =>
      simp only [okT, Bool.and_eq_true, beq_iff_eq] at hk
      obtain ⟨hr, hk⟩ := hk
      refine ⟨fun h0 => (by rw [hr] at h0; cases h0), fun j hj => ?_⟩
      rw [hr] at hj
      have : j = i := by simpa using hj
      subst this
      refine opK_mono (fun a' w' h' => ⟨h'.1, ih _ t _ a' w' hk ?_ h'.2⟩) h
      intro hcc
      simp only [Bool.and_eq_true, Bool.not_eq_true'] at hcc
      rcases h'.1 with h1 | h1
      · rw [hcc.2] at h1; cases h1
      · exact h1
    | ef2 i t j u =>
      simp only [okT, Bool.and_eq_true, beq_iff_eq] at hk
      obtain ⟨⟨hr, hk1⟩, hk2⟩ := hk
      refine ⟨fun h0 => (by rw [hr] at h0; cases h0), fun q hq => ?_⟩
      rw [hr] at hq
      have : q = i ∨ q = j := by simpa using hq
      rcases this with rfl | rfl
      · refine opK_mono (fun a' w' h' => ⟨h'.1, ih _ t _ a' w' hk1 ?_ h'.2⟩) h.1
        intro hcc
        simp only [Bool.and_eq_true, Bool.not_eq_true'] at hcc
        rcases h'.1 with h1 | h1
        · rw [hcc.2] at h1; cases h1
        · exact h1
      · refine opK_mono (fun a' w' h' => ⟨h'.1, ih _ u _ a' w' hk2 ?_ h'.2⟩) h.2
        intro hcc
        simp only [Bool.and_eq_true, Bool.not_eq_true'] at hcc
        rcases h'.1 with h1 | h1
        · rw [hcc.2] at h1; cases h1
        · exact h1
    | ef3 i t j u k v =>
      simp only [okT, Bool.and_eq_true, beq_iff_eq] at hk
      obtain ⟨⟨⟨hr, hk1⟩, hk2⟩, hk3⟩ := hk
      refine ⟨fun h0 => (by rw [hr] at h0; cases h0), fun q hq => ?_⟩
      rw [hr] at hq
      have : q = i ∨ q = j ∨ q = k := by simpa using hq
      rcases this with rfl | rfl | rfl
      · refine opK_mono (fun a' w' h' => ⟨h'.1, ih _ t _ a' w' hk1 ?_ h'.2⟩) h.1
        intro hcc
        simp only [Bool.and_eq_true, Bool.not_eq_true'] at hcc
        rcases h'.1 with h1 | h1
        · rw [hcc.2] at h1; cases h1
        · exact h1
      · refine opK_mono (fun a' w' h' => ⟨h'.1, ih _ u _ a' w' hk2 ?_ h'.2⟩) h.2.1
        intro hcc
        simp only [Bool.and_eq_true, Bool.not_eq_true'] at hcc
        rcases h'.1 with h1 | h1
        · rw [hcc.2] at h1; cases h1
        · exact h1
      · refine opK_mono (fun a' w' h' => ⟨h'.1, ih _ v _ a' w' hk3 ?_ h'.2⟩) h.2.2
        intro hcc
        simp only [Bool.and_eq_true, Bool.not_eq_true'] at hcc
        rcases h'.1 with h1 | h1
        · rw [hcc.2] at h1; cases h1
        · exact h1
/-- The checks on a region, in one closed fact. -/
def okR (ops : Array Oper) (late : List Nat) (t : OT) : Bool := Region.noSelect ops && okT .any ops late ops.size true t (Array.replicate ops.size false)
theorem c_drawn {id : Nat} {l : List Oper} {Q : Exit → Act → World → Prop} {a : Act} {w : World} {E : World} {I : IH} {O : List Atom} (hm : P.follows .mixedOrders = true) (late : List Nat) (t : OT) (hk : okR l.toArray late t = true) (hw : Ok E I O w) (C : World → Prop)
    (h : ∀ w, Ok E I O w → C w ∧ wpT P l.toArray late C (Q .normal) t a w) : (Code.region id l.toArray true).wp P Q a w := by
  simp only [okR, Bool.and_eq_true] at hk
  have hw' : Ok E I O { w with drawn := w.drawn + 1 } := hw.same ⟨rfl, rfl, rfl, Nat.le_refl _, fun _ _ _ => rfl⟩
  obtain ⟨hC, hT⟩ := h _ hw'
  exact wp_region_any hm (wpAny_of_K (fun a w h => h) _ _ _ _ (wpT_sound hk.1 _ true t _ a _ hk.2 (fun _ => hC) hT))

/-! The steps of such a walk -/
variable {late : List Nat} {C : World → Prop} {N : Act → World → Prop} {a : Act} {w : World} {n : Nat} {L : List (Nat × Value)} {E : World} {I : IH} {O : List Atom}
theorem t_rd {i d : Nat} {t : OT} {op : Op} {ty : TypeId} {pos : String} {aft : Array Edge} {v : Value} (hi : ops[i]? = some ⟨some d, op, ty, pos, aft, none⟩) (hf : Fr n L a) (hr : ∀ w, C w → (execOp a.eval (⟨some d, op, ty, pos, aft, none⟩ : Oper)).run P w = .ok (.value v) w) (hd : Nat.blt d n = true)
    (k : ∀ a, Fr n ((d, v) :: L) a → wpT P ops late C N t a w) : wpT P ops late C N (.rd i t) a w := ⟨_, v, hi, .inl ⟨rfl, hr⟩, k _ (hf.put hd v)⟩
theorem tm {i d : Nat} {t : OT} {x : Operand} {ty : TypeId} {pos : String} {aft : Array Edge} {v : Value} (hi : ops[i]? = some ⟨some d, .move x, ty, pos, aft, none⟩) (hf : Fr n L a) (hx : ev L x = some v) (hd : Nat.blt d n = true)
    (k : ∀ a, Fr n ((d, v) :: L) a → wpT P ops late C N t a w) : wpT P ops late C N (.rd i t) a w := t_rd hi hf (fun w hw => r_move hf hx) hd k
theorem wanted_of {o : Oper} (hf : Fr n L a) {j g : Nat} {want b : Bool} (hg : o.guard = some (j, want)) (hj : (ops[j]?).bind (·.dst) = some g) (hb : lk L g = some (.bool b)) : Region.wanted o (yielded ops a.tmps) = (b == want) := by
  simp only [Region.wanted, hg, yielded, hj, Option.bind_some, hf.at_ g _ hb]
  cases b <;> cases want <;> rfl
theorem t_rdG {i d j g : Nat} {b : Bool} {t : OT} {op : Op} {ty : TypeId} {pos : String} {aft : Array Edge} {v : Value} (hi : ops[i]? = some ⟨some d, op, ty, pos, aft, some (j, b)⟩) (hj : (ops[j]?).bind (·.dst) = some g) (hf : Fr n L a) (hb : lk L g = some (.bool b))
    (hr : ∀ w, C w → (execOp a.eval (⟨some d, op, ty, pos, aft, some (j, b)⟩ : Oper)).run P w = .ok (.value v) w) (hd : Nat.blt d n = true) (k : ∀ a, Fr n ((d, v) :: L) a → wpT P ops late C N t a w) : wpT P ops late C N (.rd i t) a w :=
  ⟨_, v, hi, .inl ⟨by rw [wanted_of hf rfl hj hb]; simp, hr⟩, k _ (hf.put hd v)⟩
theorem t_rdS {i d j g : Nat} {b want : Bool} {t : OT} {op : Op} {ty : TypeId} {pos : String} {aft : Array Edge} (hi : ops[i]? = some ⟨some d, op, ty, pos, aft, some (j, want)⟩) (hj : (ops[j]?).bind (·.dst) = some g) (hf : Fr n L a) (hb : lk L g = some (.bool b)) (hne : (b == want) = false)
    (hd : Nat.blt d n = true) (k : ∀ a, Fr n ((d, undef) :: L) a → wpT P ops late C N t a w) : wpT P ops late C N (.rd i t) a w :=
  ⟨_, undef, hi, .inr ⟨by rw [wanted_of hf rfl hj hb, hne], rfl⟩, k _ (hf.put hd undef)⟩
/-- An effect: a rule for a list of one operation serves. -/
def WL (P : Program) (ops : Array Oper) (o : Oper) (N : Act → World → Prop) (a : Act) (w : World) : Prop := if Region.wanted o (yielded ops a.tmps) then uponK P o a N ((execOp a.eval o).run P w) else N (a.put o.dst undef) w
theorem t_ef {i : Nat} {t : OT} {o : Oper} (hi : ops[i]? = some o) (h : WL P ops o (fun a' w' => (late.contains i = true ∨ C w') ∧ wpT P ops late C N t a' w') a w) : wpT P ops late C N (.ef i t) a w := by
  show opK P ops i _ a w
  unfold opK
  simp only [hi]
  exact h
theorem t_ef2 {i j : Nat} {t u : OT} {o o' : Oper} (hi : ops[i]? = some o) (hj : ops[j]? = some o') (h : WL P ops o (fun a' w' => (late.contains i = true ∨ C w') ∧ wpT P ops late C N t a' w') a w) (h' : WL P ops o' (fun a' w' => (late.contains j = true ∨ C w') ∧ wpT P ops late C N u a' w') a w) : wpT P ops late C N (.ef2 i t j u) a w := by
  show opK P ops i _ a w ∧ opK P ops j _ a w
  unfold opK
  simp only [hi, hj]
  exact ⟨h, h'⟩
theorem t_ef3 {i j k : Nat} {t u v : OT} {o o' o'' : Oper} (hi : ops[i]? = some o) (hj : ops[j]? = some o') (hk : ops[k]? = some o'') (h : WL P ops o (fun a' w' => (late.contains i = true ∨ C w') ∧ wpT P ops late C N t a' w') a w) (h' : WL P ops o' (fun a' w' => (late.contains j = true ∨ C w') ∧ wpT P ops late C N u a' w') a w) (h'' : WL P ops o'' (fun a' w' => (late.contains k = true ∨ C w') ∧ wpT P ops late C N v a' w') a w) : wpT P ops late C N (.ef3 i t j u k v) a w := by
  show opK P ops i _ a w ∧ opK P ops j _ a w ∧ opK P ops k _ a w
  unfold opK
  simp only [hi, hj, hk]
  exact ⟨h, h', h''⟩
theorem gd_in {α : Type} {c : Prop} [Decidable c] {x : Option α} {r : Option α} (h : c) (hp : x = r) : gd c x = r := by rw [gd_pos h]; exact hp
theorem bind_in {α β : Type} {x : Option α} {f : α → Option β} {y : α} {r : Option β} (h : x = some y) (hp : f y = r) : x.bind f = r := by rw [h]; exact hp
theorem t_eff {op : Op} {ty : TypeId} {pos : String} {aft : Array Edge} {d : Nat} {v : Value} {w' : World} (hf : Fr n L a) (hr : (execOp a.eval (⟨some d, op, ty, pos, aft, none⟩ : Oper)).run P w = .ok (.value v) w') (hd : Nat.blt d n = true) (k : ∀ a, Fr n ((d, v) :: L) a → N a w') : WL P ops ⟨some d, op, ty, pos, aft, none⟩ N a w := by
  unfold WL
  rw [if_pos (by rfl), hr]
  exact k _ (hf.put hd v)
theorem t_effU {op : Op} {ty : TypeId} {pos : String} {aft : Array Edge} {w' : World} (hr : (execOp a.eval (⟨none, op, ty, pos, aft, none⟩ : Oper)).run P w = .ok .skip w') (k : N a w') : WL P ops ⟨none, op, ty, pos, aft, none⟩ N a w := by
  unfold WL
  rw [if_pos (by rfl), hr]
  exact k
theorem t_call {ty : TypeId} {pos : String} {aft : Array Edge} {d : Nat} (hf : Fr n L a) {f : FuncId} (hcb : Callable P f) {args : List Operand} {tys : Array TypeId} {vs : List Value} (ha : evs L args = some vs) (hdn : Nat.blt d n = true)
    {K : Value → World → Prop} (hc : Calls P f ⟨vs⟩ w fun e w' => ∃ v, e = .returned v ∧ K v w') (k : ∀ v w a, K v w → Fr n ((d, v) :: L) a → N a w) :
    WL P ops ⟨some d, .call { callee := .value (.func f), args := args.toArray, argTypes := tys }, ty, pos, aft, none⟩ N a w := by
  unfold WL
  rw [if_pos (by rfl)]
  have : (execOp a.eval (⟨some d, .call { callee := .value (.func f), args := args.toArray, argTypes := tys }, ty, pos, aft, none⟩ : Oper)).run P w = .ok (.enter f ⟨vs⟩) w := by
    simp [execOp, resolve, Act.eval, Deferred.ofValue, invoke, run_callFunc hcb, hf.evs ha]
  rw [this]
  exact hc.mono fun e w' ⟨v, he, hv⟩ => ⟨v, he, k v w' _ hv (hf.put hdn v)⟩
/-- What is owned and immutable behind a step, seen from before. -/
theorem Ok.back {E : World} {I J : IH} {O O' : List Atom} {w : World} (h : Ok E J O' w) (hI : IH.le I J) (hs : O.Sublist O') : Ok E I O w := by
  have h1 := h.sub hs
  refine ⟨h1.os, h1.tape, h1.output, fun b o hb => h1.imm b o (hI b o hb), h1.own, h1.nd, fun A hA b hb => ?_⟩
  have := h1.sep A hA b hb
  cases hq : I b with
  | none => rfl
  | some o => rw [hI b o hq] at this; cases this
end
end Go.Lf
