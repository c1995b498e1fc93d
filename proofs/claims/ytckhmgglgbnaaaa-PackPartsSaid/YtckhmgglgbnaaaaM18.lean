/- A child stands in a sheet of its own just where there was no room. -/
import Derived.Test.YtckhmgglgbnaaaaM17
set_option linter.unusedVariables false
set_option linter.unusedSimpArgs false
namespace Go.Lf
open Go
/-- There was no room for y, with all nodes ahead of it. -/
def Full (y : Nat × T) (L : List (Nat × T)) : Prop := ∃ pr po, L = pr ++ po ∧ (∀ x ∈ pr, x.1 < y.1) ∧ (∀ x ∈ po, y.1 < x.1) ∧ 243 + 3 * pr.length < ows pr + y.2.own
theorem Full.ext {y : Nat × T} {L N : List (Nat × T)} (h : Full y L) (hN : ∀ x ∈ N, y.1 < x.1) : Full y (L ++ N) := by
  obtain ⟨pr, po, rfl, h1, h2, h3⟩ := h
  refine ⟨pr, po ++ N, by simp, h1, fun x hx => ?_, h3⟩
  rcases List.mem_append.mp hx with hx | hx
  · exact h2 x hx
  · exact hN x hx
/-- What holds while a sheet grows, its next place being b. -/
structure Fin_ (s : Gs) (b : Nat) : Prop where
  lt : ∀ x ∈ s.nodes, x.1 < b
  tops : ∀ y ∈ s.tops, y.1 < b ∧ Full y s.nodes
mutual
theorem T.grow_full : ∀ (t : T) (b : Nat) (s : Gs), t.ok → Fin_ s b → s.used + 3 * s.nodes.length = ows s.nodes + t.own → Fin_ (t.grow b s) (b + t.sz) ∧ (t.grow b s).used + 3 * (t.grow b s).nodes.length = ows (t.grow b s).nodes + 3
  | .node l ks, b, s, ho, hf, hj => by
    rw [T.grow, T.sz, show b + (ks.sz + 1) = b + 1 + ks.sz by omega]
    refine Ks.grow_full ks (b + 1) _ ho.2.2 ⟨fun x hx => ?_, fun y hy => ?_⟩ ?_
    · rcases List.mem_append.mp hx with hx | hx
      · have := hf.lt x hx; omega
      · simp at hx; subst hx; show b < b + 1; omega
    · obtain ⟨h1, h2⟩ := hf.tops y hy
      exact ⟨by omega, h2.ext fun x hx => by simp at hx; subst hx; exact h1⟩
    · simp only [List.length_append, List.length_singleton, ows_app, ows]
      omega
theorem Ks.grow_full : ∀ (ks : Ks) (b : Nat) (s : Gs), ks.ok → Fin_ s b → s.used + 3 * s.nodes.length = ows s.nodes + 3 → Fin_ (ks.grow b s) (b + ks.sz) ∧ (ks.grow b s).used + 3 * (ks.grow b s).nodes.length = ows (ks.grow b s).nodes + 3
  | .nil, b, s, ho, hf, hj => ⟨hf, hj⟩
  | .cons c t ks, b, s, ho, hf, hj => by
    have hp := T.sz_pos t
    have hw := T.own_ge t
    rw [Ks.grow, Ks.sz, ← Nat.add_assoc]
    split
    · rename_i hc
      refine Ks.grow_full ks (b + t.sz) _ ho.2 ⟨fun x hx => ?_, fun y hy => ?_⟩ hj
      · have := hf.lt x hx; omega
      · rcases List.mem_append.mp hy with hy | hy
        · obtain ⟨h1, h2⟩ := hf.tops y hy
          exact ⟨by omega, h2⟩
        · simp at hy; subst hy
          refine ⟨by show b < b + t.sz; omega, s.nodes, [], by simp, hf.lt, by simp, ?_⟩
          show 243 + 3 * s.nodes.length < ows s.nodes + t.own
          omega
    · obtain ⟨h1, h2⟩ := T.grow_full t b { s with used := s.used + (t.own - 3) } ho.1 ⟨hf.lt, hf.tops⟩ (by simp only; omega)
      exact Ks.grow_full ks (b + t.sz) _ ho.2 h1 h2
end
theorem gr_full {t : T} {b : Nat} (ho : t.ok) : ∀ y ∈ (gr t b).tops, Full y (gr t b).nodes := by
  obtain ⟨h1, -⟩ := T.grow_full t b ⟨[], t.own, []⟩ ho ⟨by simp, by simp⟩ (by simp [ows])
  exact fun y hy => (h1.tops y hy).2
/-- The numbers of the sheets that are led to. -/
def KOK (P : List Plan) (me : Nat) : List Int → List (Nat × T) → Prop
  | [], [] => True
  | q :: qs, y :: ys => (∃ m : Nat, q = (m : Int) ∧ me < m ∧ m < P.length ∧ (P.getD m default).top_ = (y.1 : Int)) ∧ KOK P me qs ys
  | _, _ => False

/-- What a sheet is, among all sheets; me is its number. -/
def Ent (a : List Node) (pp : List ByteArray) (P : List Plan) (me : Nat) (p : Plan) : Prop :=
  ∃ b t, Lies a b t ∧ t.ok ∧ p.nodes_ = ix (gr t b).nodes ∧ p.top_ = (b : Int) ∧ p.prefix_ = tx pp b ∧ KOK P me p.kids_ (gr t b).tops
theorem shs_head (pp : List ByteArray) (k : Nat) (t : T) (b me : Nat) (h : 0 < k) : ∃ r, shs pp k t b me = r ∧ 0 < r.length ∧ (r.getD 0 default).top_ = (b : Int) := by
  obtain ⟨k, rfl⟩ : ∃ k', k = k' + 1 := ⟨k - 1, by omega⟩
  exact ⟨_, rfl, by simp [shs], by simp [shs]⟩
theorem getD_mid {A r C : List Plan} {m : Nat} (h : A.length = m) (hr : 0 < r.length) : (A ++ (r ++ C)).getD m default = r.getD 0 default := by
  subst h
  cases r with
  | nil => simp at hr
  | cons x r => simp
theorem shL_ent {a : List Node} {pp : List ByteArray} {P : List Plan} {k me0 : Nat}
    (hrec : ∀ t b me A C, Lies a b t → t.ok → t.sz ≤ k → P = A ++ (shs pp k t b me ++ C) → A.length = me → ∀ i p, (shs pp k t b me)[i]? = some p → Ent a pp P (me + i) p) :
    ∀ (x : List (Nat × T)) (nx : Nat) (A C : List Plan), Sts a x → (∀ y ∈ x, y.2.sz ≤ k) → me0 < nx → P = A ++ ((shL (shs pp k) x nx).2 ++ C) → A.length = nx →
      KOK P me0 (shL (shs pp k) x nx).1 x ∧ ∀ i p, (shL (shs pp k) x nx).2[i]? = some p → Ent a pp P (nx + i) p
  | [], nx, A, C, _, _, _, _, _ => ⟨trivial, fun i p h => by simp [shL] at h⟩
  | y :: r, nx, A, C, hs, hk, hnx, hP, hA => by
    obtain ⟨l1, l2⟩ := hs y (List.mem_cons_self ..)
    have hkk := hk y (List.mem_cons_self ..)
    have hpos := T.sz_pos y.2
    simp only [shL] at hP ⊢
    rw [List.append_assoc] at hP
    obtain ⟨q, hq, hq0, hq1⟩ := shs_head pp k y.2 y.1 nx (by omega)
    have h1 := hrec y.2 y.1 nx A _ l1 l2 hkk hP hA
    obtain ⟨h2, h3⟩ := shL_ent (me0 := me0) hrec r (nx + (shs pp k y.2 y.1 nx).length) (A ++ shs pp k y.2 y.1 nx) C (fun z hz => hs z (List.mem_cons_of_mem _ hz)) (fun z hz => hk z (List.mem_cons_of_mem _ hz)) (by omega) (by rw [hP]; simp) (by simp [hA])
    refine ⟨⟨⟨nx, rfl, hnx, ?_, ?_⟩, h2⟩, fun i p hi => ?_⟩
    · rw [hP, hq]
      simp only [List.length_append]
      omega
    · rw [hP, hq, getD_mid hA hq0, hq1]
    · rcases Nat.lt_or_ge i (shs pp k y.2 y.1 nx).length with hlt | hge
      · rw [List.getElem?_append_left hlt] at hi
        exact h1 i p hi
      · rw [List.getElem?_append_right hge] at hi
        have := h3 _ p hi
        rwa [show nx + (shs pp k y.2 y.1 nx).length + (i - (shs pp k y.2 y.1 nx).length) = nx + i by omega] at this
theorem shs_ent {a : List Node} {pp : List ByteArray} {P : List Plan} : ∀ (k : Nat) (t : T) (b me : Nat) (A C : List Plan), Lies a b t → t.ok → t.sz ≤ k → P = A ++ (shs pp k t b me ++ C) → A.length = me → ∀ i p, (shs pp k t b me)[i]? = some p → Ent a pp P (me + i) p
  | 0, t, b, me, A, C, hl, ho, hk, _, _, i, p, hi => by have := T.sz_pos t; omega
  | k + 1, t, b, me, A, C, hl, ho, hk, hP, hA, i, p, hi => by
    have htops := gr_tops (b := b) ho
    simp only [shs] at hP hi
    obtain ⟨h1, h2⟩ := shL_ent (a := a) (pp := pp) (P := P) (k := k) (me0 := me) (fun t b me A C h3 h4 h5 h6 h7 => shs_ent k t b me A C h3 h4 h5 h6 h7) (gr t b).tops (me + 1) (A ++ [⟨tx pp b, (b : Int), ix (gr t b).nodes, (shL (shs pp k) (gr t b).tops (me + 1)).1⟩]) C (gr_sts hl ho).2 (fun y hy => by have := szs_mem hy; omega) (by omega) (by rw [hP]; simp) (by simp [hA])
    cases i with
    | zero =>
      simp only [List.getElem?_cons_zero, Option.some.injEq] at hi
      subst hi
      exact ⟨b, t, hl, ho, rfl, rfl, rfl, h1⟩
    | succ i =>
      simp only [List.getElem?_cons_succ] at hi
      have := h2 i p hi
      rwa [show me + 1 + i = me + (i + 1) by omega] at this
theorem sheets_ent {l : List Pair} (hm : MayP l) (hl : l.length < 10000) {i : Nat} (hi : i < (sheets l).length) : Ent (tri l) (trp l) (sheets l) i ((sheets l).getD i default) := by
  by_cases he : l = []
  · subst he
    simp [sheets] at hi
  · have h0 : 0 < l.length := List.length_pos_iff.mpr he
    have hs : sheets l = shs (trp l) (tre l).sz (tre l) 0 0 := by rw [sheets, if_neg he]
    have := shs_ent (pp := trp l) (P := sheets l) (tre l).sz (tre l) 0 0 [] [] (tre_lies h0) (tre_ok hm (by omega) h0) (Nat.le_refl _) (by rw [hs]; simp) rfl i ((sheets l).getD i default) (by rw [← hs, List.getD_eq_getElem?_getD, List.getElem?_eq_getElem hi, Option.getD_some])
    rwa [Nat.zero_add] at this
theorem sheets_len {l : List Pair} (hm : MayP l) (hl : l.length < 10000) : (sheets l).length ≤ (tri l).length ∧ (tri l).length < 200000 := by
  by_cases he : l = []
  · subst he
    simp [sheets, tri]
  · have h0 : 0 < l.length := List.length_pos_iff.mpr he
    have hsz := tre_sz (l := l) (by omega) h0
    have htl := tri_len (l := l) h0
    have hs : sheets l = shs (trp l) (tre l).sz (tre l) 0 0 := by rw [sheets, if_neg he]
    have hsl := shs_le (trp l) (tre l).sz (tre l) 0 0 (tre_lies h0) (tre_ok hm (by omega) h0)
    rw [← hs] at hsl
    omega
theorem KOK.get {P : List Plan} {me : Nat} : ∀ {qs : List Int} {ys : List (Nat × T)}, KOK P me qs ys → qs.length = ys.length ∧ ∀ j, j < qs.length → ∃ m : Nat, qs.getD j default = (m : Int) ∧ me < m ∧ m < P.length ∧ (P.getD m default).top_ = ((ys.getD j default).1 : Int)
  | [], [], _ => ⟨rfl, fun j h => by simp at h⟩
  | [], _ :: _, h => h.elim
  | _ :: _, [], h => h.elim
  | q :: qs, y :: ys, h => by
    obtain ⟨h1, h2⟩ := h
    obtain ⟨e, h3⟩ := KOK.get h2
    refine ⟨by simp [e], fun j hj => ?_⟩
    cases j with
    | zero => simpa using h1
    | succ j => simpa using h3 j (by simpa using hj)
end Go.Lf
