import Derived.Test.YtckhmgglgbnaaaaMC
import Derived.Test.YtckhmgglgbnaaaaMB
/- A child stands in a sheet of its own just where there was no room. -/
set_option linter.unusedVariables false
set_option linter.unusedSimpArgs false
namespace Go.Lf
open Go
/-- There was no room for y, with all nodes ahead of it. -/
def Full (y : Nat × T) (L : List (Nat × T)) : Prop := ∃ pr po, L = pr ++ po ∧ (∀ x ∈ pr, x.1 < y.1) ∧ (∀ x ∈ po, y.1 < x.1) ∧ 243 + 3 * pr.length < ows pr + y.2.own
theorem Full.ext {y : Nat × T} {L N : List (Nat × T)} (h : Full y L) (hN : ∀ x ∈ N, y.1 < x.1) : Full y (L ++ N) := by
  obtain ⟨pr, po, rfl, h1, h2, h3⟩ := h
  refine ⟨pr, po ++ N, by simp, h1, fun x hx => ?_, h3⟩
  rcases List.mem_append.mp hx with hx | hx
  · exact h2 x hx
  · exact hN x hx
/-- What holds while a sheet grows, its next place being b. -/
structure Fin_ (s : Gs) (b : Nat) : Prop where
  lt : ∀ x ∈ s.nodes, x.1 < b
  tops : ∀ y ∈ s.tops, y.1 < b ∧ Full y s.nodes
mutual
theorem T.grow_full : ∀ (t : T) (b : Nat) (s : Gs), t.ok → Fin_ s b → s.used + 3 * s.nodes.length = ows s.nodes + t.own → Fin_ (t.grow b s) (b + t.sz) ∧ (t.grow b s).used + 3 * (t.grow b s).nodes.length = ows (t.grow b s).nodes + 3
  | .node l ks, b, s, ho, hf, hj => by
    rw [T.grow, T.sz, show b + (ks.sz + 1) = b + 1 + ks.sz by omega]
    refine Ks.grow_full ks (b + 1) _ ho.2.2 ⟨fun x hx => ?_, fun y hy => ?_⟩ ?_
    · rcases List.mem_append.mp hx with hx | hx
      · have := hf.lt x hx; omega
      · simp at hx; subst hx; show b < b + 1; omega
    · obtain ⟨h1, h2⟩ := hf.tops y hy
      exact ⟨by omega, h2.ext fun x hx => by simp at hx; subst hx; exact h1⟩
    · simp only [List.length_append, List.length_singleton, ows_app, ows]
      omega
theorem Ks.grow_full : ∀ (ks : Ks) (b : Nat) (s : Gs), ks.ok → Fin_ s b → s.used + 3 * s.nodes.length = ows s.nodes + 3 → Fin_ (ks.grow b s) (b + ks.sz) ∧ (ks.grow b s).used + 3 * (ks.grow b s).nodes.length = ows (ks.grow b s).nodes + 3
  | .nil, b, s, ho, hf, hj => ⟨hf, hj⟩
  | .cons c t ks, b, s, ho, hf, hj => by
    have hp := T.sz_pos t
    have hw := T.own_ge t
    rw [Ks.grow, Ks.sz, ← Nat.add_assoc]
    split
    · rename_i hc
      refine Ks.grow_full ks (b + t.sz) _ ho.2 ⟨fun x hx => ?_, fun y hy => ?_⟩ hj
      · have := hf.lt x hx; omega
      · rcases List.mem_append.mp hy with hy | hy
        · obtain ⟨h1, h2⟩ := hf.tops y hy
          exact ⟨by omega, h2⟩
        · simp at hy; subst hy
          refine ⟨by show b < b + t.sz; omega, s.nodes, [], by simp, hf.lt, by simp, ?_⟩
          show 243 + 3 * s.nodes.length < ows s.nodes + t.own
          omega
    · obtain ⟨h1, h2⟩ := T.grow_full t b { s with used := s.used + (t.own - 3) } ho.1 ⟨hf.lt, hf.tops⟩ (by simp only; omega)
      exact Ks.grow_full ks (b + t.sz) _ ho.2 h1 h2
end
theorem gr_full {t : T} {b : Nat} (ho : t.ok) : ∀ y ∈ (gr t b).tops, Full y (gr t b).nodes := by
  obtain ⟨h1, -⟩ := T.grow_full t b ⟨[], t.own, []⟩ ho ⟨by simp, by simp⟩ (by simp [ows])
  exact fun y hy => (h1.tops y hy).2
/-- The numbers of the sheets that are led to. -/
def KOK (P : List Plan) (me : Nat) : List Int → List (Nat × T) → Prop
  | [], [] => True
  | q :: qs, y :: ys => (∃ m : Nat, q = (m : Int) ∧ me < m ∧ m < P.length ∧ (P.getD m default).top_ = (y.1 : Int)) ∧ KOK P me qs ys
  | _, _ => False

/-- What a sheet is, among all sheets; me is its number. -/
def Ent (a : List Node) (pp : List ByteArray) (P : List Plan) (me : Nat) (p : Plan) : Prop :=
  ∃ b t, Lies a b t ∧ t.ok ∧ p.nodes_ = ix (gr t b).nodes ∧ p.top_ = (b : Int) ∧ p.prefix_ = tx pp b ∧ KOK P me p.kids_ (gr t b).tops
theorem shs_head (pp : List ByteArray) (k : Nat) (t : T) (b me : Nat) (h : 0 < k) : ∃ r, shs pp k t b me = r ∧ 0 < r.length ∧ (r.getD 0 default).top_ = (b : Int) := by
  obtain ⟨k, rfl⟩ : ∃ k', k = k' + 1 := ⟨k - 1, by omega⟩
  exact ⟨_, rfl, by simp [shs], by simp [shs]⟩
theorem getD_mid {A r C : List Plan} {m : Nat} (h : A.length = m) (hr : 0 < r.length) : (A ++ (r ++ C)).getD m default = r.getD 0 default := by
  subst h
  cases r with
  | nil => simp at hr
  | cons x r => simp
theorem shL_ent {a : List Node} {pp : List ByteArray} {P : List Plan} {k me0 : Nat}
    (hrec : ∀ t b me A C, Lies a b t → t.ok → t.sz ≤ k → P = A ++ (shs pp k t b me ++ C) → A.length = me → ∀ i p, (shs pp k t b me)[i]? = some p → Ent a pp P (me + i) p) :
    ∀ (x : List (Nat × T)) (nx : Nat) (A C : List Plan), Sts a x → (∀ y ∈ x, y.2.sz ≤ k) → me0 < nx → P = A ++ ((shL (shs pp k) x nx).2 ++ C) → A.length = nx →
      KOK P me0 (shL (shs pp k) x nx).1 x ∧ ∀ i p, (shL (shs pp k) x nx).2[i]? = some p → Ent a pp P (nx + i) p
  | [], nx, A, C, _, _, _, _, _ => ⟨trivial, fun i p h => by simp [shL] at h⟩
  | y :: r, nx, A, C, hs, hk, hnx, hP, hA => by
    obtain ⟨l1, l2⟩ := hs y (List.mem_cons_self ..)
    have hkk := hk y (List.mem_cons_self ..)
    have hpos := T.sz_pos y.2
    simp only [shL] at hP ⊢
    rw [List.append_assoc] at hP
    obtain ⟨q, hq, hq0, hq1⟩ := shs_head pp k y.2 y.1 nx (by omega)
    have h1 := hrec y.2 y.1 nx A _ l1 l2 hkk hP hA
    obtain ⟨h2, h3⟩ := shL_ent (me0 := me0) hrec r (nx + (shs pp k y.2 y.1 nx).length) (A ++ shs pp k y.2 y.1 nx) C (fun z hz => hs z (List.mem_cons_of_mem _ hz)) (fun z hz => hk z (List.mem_cons_of_mem _ hz)) (by omega) (by rw [hP]; simp) (by simp [hA])
    refine ⟨⟨⟨nx, rfl, hnx, ?_, ?_⟩, h2⟩, fun i p hi => ?_⟩
    · rw [hP, hq]
      simp only [List.length_append]
      omega
    · rw [hP, hq, getD_mid hA hq0, hq1]
    · rcases Nat.lt_or_ge i (shs pp k y.2 y.1 nx).length with hlt | hge
      · rw [List.getElem?_append_left hlt] at hi
        exact h1 i p hi
      · rw [List.getElem?_append_right hge] at hi
        have := h3 _ p hi
        rwa [show nx + (shs pp k y.2 y.1 nx).length + (i - (shs pp k y.2 y.1 nx).length) = nx + i by omega] at this
theorem shs_ent {a : List Node} {pp : List ByteArray} {P : List Plan} : ∀ (k : Nat) (t : T) (b me : Nat) (A C : List Plan), Lies a b t → t.ok → t.sz ≤ k → P = A ++ (shs pp k t b me ++ C) → A.length = me → ∀ i p, (shs pp k t b me)[i]? = some p → Ent a pp P (me + i) p
  | 0, t, b, me, A, C, hl, ho, hk, _, _, i, p, hi => by have := T.sz_pos t; omega
  | k + 1, t, b, me, A, C, hl, ho, hk, hP, hA, i, p, hi => by
    have htops := gr_tops (b := b) ho
    simp only [shs] at hP hi
    obtain ⟨h1, h2⟩ := shL_ent (a := a) (pp := pp) (P := P) (k := k) (me0 := me) (fun t b me A C h3 h4 h5 h6 h7 => shs_ent k t b me A C h3 h4 h5 h6 h7) (gr t b).tops (me + 1) (A ++ [⟨tx pp b, (b : Int), ix (gr t b).nodes, (shL (shs pp k) (gr t b).tops (me + 1)).1⟩]) C (gr_sts hl ho).2 (fun y hy => by have := szs_mem hy; omega) (by omega) (by rw [hP]; simp) (by simp [hA])
    cases i with
    | zero =>
      simp only [List.getElem?_cons_zero, Option.some.injEq] at hi
      subst hi
      exact ⟨b, t, hl, ho, rfl, rfl, rfl, h1⟩
    | succ i =>
      simp only [List.getElem?_cons_succ] at hi
      have := h2 i p hi
      rwa [show me + 1 + i = me + (i + 1) by omega] at this
theorem sheets_ent {l : List Pair} (hm : MayP l) (hl : l.length < 10000) {i : Nat} (hi : i < (sheets l).length) : Ent (tri l) (trp l) (sheets l) i ((sheets l).getD i default) := by
  by_cases he : l = []
  · subst he
    simp [sheets] at hi
  · have h0 : 0 < l.length := List.length_pos_iff.mpr he
    have hs : sheets l = shs (trp l) (tre l).sz (tre l) 0 0 := by rw [sheets, if_neg he]
    have := shs_ent (pp := trp l) (P := sheets l) (tre l).sz (tre l) 0 0 [] [] (tre_lies h0) (tre_ok hm (by omega) h0) (Nat.le_refl _) (by rw [hs]; simp) rfl i ((sheets l).getD i default) (by rw [← hs, List.getD_eq_getElem?_getD, List.getElem?_eq_getElem hi, Option.getD_some])
    rwa [Nat.zero_add] at this
theorem sheets_len {l : List Pair} (hm : MayP l) (hl : l.length < 10000) : (sheets l).length ≤ (tri l).length ∧ (tri l).length < 200000 := by
  by_cases he : l = []
  · subst he
    simp [sheets, tri]
  · have h0 : 0 < l.length := List.length_pos_iff.mpr he
    have hsz := tre_sz (l := l) (by omega) h0
    have htl := tri_len (l := l) h0
    have hs : sheets l = shs (trp l) (tre l).sz (tre l) 0 0 := by rw [sheets, if_neg he]
    have hsl := shs_le (trp l) (tre l).sz (tre l) 0 0 (tre_lies h0) (tre_ok hm (by omega) h0)
    rw [← hs] at hsl
    omega
theorem KOK.get {P : List Plan} {me : Nat} : ∀ {qs : List Int} {ys : List (Nat × T)}, KOK P me qs ys → qs.length = ys.length ∧ ∀ j, j < qs.length → ∃ m : Nat, qs.getD j default = (m : Int) ∧ me < m ∧ m < P.length ∧ (P.getD m default).top_ = ((ys.getD j default).1 : Int)
  | [], [], _ => ⟨rfl, fun j h => by simp at h⟩
  | [], _ :: _, h => h.elim
  | _ :: _, [], h => h.elim
  | q :: qs, y :: ys, h => by
    obtain ⟨h1, h2⟩ := h
    obtain ⟨e, h3⟩ := KOK.get h2
    refine ⟨by simp [e], fun j hj => ?_⟩
    cases j with
    | zero => simpa using h1
    | succ j => simpa using h3 j (by simpa using hj)
end Go.Lf
/- A sheet's nodes and the trees that it leads to are all that stands there, each once. -/
set_option linter.unusedVariables false
set_option linter.unusedSimpArgs false
namespace Go.Lf
open Go
/-- These trees stand one behind the other. -/
def AscI (lo hi : Nat) (M : List (Nat × T)) : Prop := M.Pairwise (fun x y => x.1 + x.2.sz ≤ y.1) ∧ ∀ x ∈ M, lo ≤ x.1 ∧ x.1 + x.2.sz ≤ hi
theorem AscI.app {lo mid hi : Nat} {x y : List (Nat × T)} (h : AscI lo mid x) (h' : AscI mid hi y) (h1 : lo ≤ mid) (h2 : mid ≤ hi) : AscI lo hi (x ++ y) := by
  refine ⟨List.pairwise_append.mpr ⟨h.1, h'.1, fun a ha b hb => ?_⟩, fun z hz => ?_⟩
  · have := (h.2 a ha).2
    have := (h'.2 b hb).1
    omega
  · rcases List.mem_append.mp hz with hz | hz
    · have := h.2 z hz; omega
    · have := h'.2 z hz; omega
/-- These nodes and these trees are all that stands from lo to hi, each once. -/
structure Cov (lo hi : Nat) (N M : List (Nat × T)) : Prop where
  asc : Asc lo hi N
  int : AscI lo hi M
  off : ∀ x ∈ N, ∀ y ∈ M, x.1 < y.1 ∨ y.1 + y.2.sz ≤ x.1
  all : ∀ v, lo ≤ v → v < hi → (∃ x ∈ N, x.1 = v) ∨ ∃ y ∈ M, y.1 ≤ v ∧ v < y.1 + y.2.sz
theorem Cov.app {lo mid hi : Nat} {N M N' M' : List (Nat × T)} (h : Cov lo mid N M) (h' : Cov mid hi N' M') (h1 : lo ≤ mid) (h2 : mid ≤ hi) : Cov lo hi (N ++ N') (M ++ M') where
  asc := h.asc.app h'.asc h1 h2
  int := h.int.app h'.int h1 h2
  off := fun x hx y hy => by
    rcases List.mem_append.mp hx with hx | hx <;> rcases List.mem_append.mp hy with hy | hy
    · exact h.off x hx y hy
    · have := (h.asc.2 x hx).2
      have := (h'.int.2 y hy).1
      omega
    · have := (h'.asc.2 x hx).1
      have := (h.int.2 y hy).2
      omega
    · exact h'.off x hx y hy
  all := fun v hv hv' => by
    rcases Nat.lt_or_ge v mid with hm | hm
    · rcases h.all v hv hm with ⟨x, hx, e⟩ | ⟨y, hy, e⟩
      · exact .inl ⟨x, List.mem_append_left _ hx, e⟩
      · exact .inr ⟨y, List.mem_append_left _ hy, e⟩
    · rcases h'.all v hm hv' with ⟨x, hx, e⟩ | ⟨y, hy, e⟩
      · exact .inl ⟨x, List.mem_append_right _ hx, e⟩
      · exact .inr ⟨y, List.mem_append_right _ hy, e⟩
/-- i is the place of one of these. -/
def On (N M : List (Nat × T)) (i : Nat) : Prop := (∃ y ∈ N, y.1 = i) ∨ ∃ y ∈ M, y.1 = i
theorem On.mono {N M N' M' : List (Nat × T)} {i : Nat} (h : On N M i) (h1 : ∀ x ∈ N, x ∈ N') (h2 : ∀ x ∈ M, x ∈ M') : On N' M' i := by
  rcases h with ⟨y, hy, e⟩ | ⟨y, hy, e⟩
  · exact .inl ⟨y, h1 y hy, e⟩
  · exact .inr ⟨y, h2 y hy, e⟩
/-- i is a child's place. -/
def kidOf (x : Nat × T) (i : Nat) : Prop := match x.2 with | .node l ks => ks.kid (x.1 + 1) i
def KidsIn (N M : List (Nat × T)) : Prop := ∀ x ∈ N, ∀ i, kidOf x i → On N M i
mutual
theorem T.grow_cov : ∀ (t : T) (b : Nat) (s : Gs), ∃ N M, (t.grow b s).nodes = s.nodes ++ (b, t) :: N ∧ (t.grow b s).tops = s.tops ++ M ∧ Cov b (b + t.sz) ((b, t) :: N) M ∧ KidsIn ((b, t) :: N) M
  | .node l ks, b, s => by
    obtain ⟨N, M, h1, h2, h3, h4, h5⟩ := Ks.grow_cov ks (b + 1) { s with nodes := s.nodes ++ [(b, .node l ks)] }
    have hc : Cov b (b + 1) [(b, T.node l ks)] [] := {
      asc := ⟨List.pairwise_singleton .., fun x hx => by simp at hx; subst hx; show b ≤ b ∧ b < b + 1; omega⟩
      int := ⟨List.Pairwise.nil, by simp⟩
      off := by simp
      all := fun v h h' => .inl ⟨_, List.mem_cons_self .., by show b = v; omega⟩ }
    refine ⟨N, M, by rw [T.grow, h1]; simp, by rw [T.grow, h2], ?_, fun x hx i hi => ?_⟩
    · rw [T.sz, show b + (ks.sz + 1) = b + 1 + ks.sz by omega]
      exact hc.app h3 (by omega) (by omega)
    · rcases List.mem_cons.mp hx with rfl | hx
      · exact (h5 i hi).mono (fun x hx => List.mem_cons_of_mem _ hx) fun x hx => hx
      · exact (h4 x hx i hi).mono (fun x hx => List.mem_cons_of_mem _ hx) fun x hx => hx
theorem Ks.grow_cov : ∀ (ks : Ks) (b : Nat) (s : Gs), ∃ N M, (ks.grow b s).nodes = s.nodes ++ N ∧ (ks.grow b s).tops = s.tops ++ M ∧ Cov b (b + ks.sz) N M ∧ KidsIn N M ∧ ∀ i, ks.kid b i → On N M i
  | .nil, b, s => ⟨[], [], by simp [Ks.grow], by simp [Ks.grow], ⟨⟨List.Pairwise.nil, by simp⟩, ⟨List.Pairwise.nil, by simp⟩, by simp, fun v h h' => by simp only [Ks.sz] at h'; omega⟩, fun x hx => by simp at hx, fun i h => h.elim⟩
  | .cons c t ks, b, s => by
    have hp := T.sz_pos t
    rw [Ks.grow, Ks.sz, ← Nat.add_assoc]
    split
    · obtain ⟨N, M, h1, h2, h3, h4, h5⟩ := Ks.grow_cov ks (b + t.sz) { s with tops := s.tops ++ [(b, t)] }
      have hc : Cov b (b + t.sz) [] [(b, t)] := {
        asc := ⟨List.Pairwise.nil, by simp⟩
        int := ⟨List.pairwise_singleton .., fun x hx => by simp at hx; subst hx; show b ≤ b ∧ b + t.sz ≤ b + t.sz; omega⟩
        off := by simp
        all := fun v h h' => .inr ⟨_, List.mem_cons_self .., h, h'⟩ }
      refine ⟨N, (b, t) :: M, h1, by rw [h2]; simp, hc.app h3 (by omega) (by omega), fun x hx i hi => (h4 x hx i hi).mono (fun x hx => hx) fun x hx => List.mem_cons_of_mem _ hx, fun i hi => ?_⟩
      rcases hi with rfl | hi
      · exact .inr ⟨_, List.mem_cons_self .., rfl⟩
      · exact (h5 i hi).mono (fun x hx => hx) fun x hx => List.mem_cons_of_mem _ hx
    · obtain ⟨N, M, g1, g2, g3, g4⟩ := T.grow_cov t b { s with used := s.used + (t.own - 3) }
      obtain ⟨N', M', h1, h2, h3, h4, h5⟩ := Ks.grow_cov ks (b + t.sz) (t.grow b { s with used := s.used + (t.own - 3) })
      refine ⟨(b, t) :: N ++ N', M ++ M', by rw [h1, g1]; simp, by rw [h2, g2]; simp, g3.app h3 (by omega) (by omega), fun x hx i hi => ?_, fun i hi => ?_⟩
      · rcases List.mem_append.mp hx with hx | hx
        · exact (g4 x hx i hi).mono (fun x hx => List.mem_append_left _ hx) fun x hx => List.mem_append_left _ hx
        · exact (h4 x hx i hi).mono (fun x hx => List.mem_append_right _ hx) fun x hx => List.mem_append_right _ hx
      · rcases hi with rfl | hi
        · exact .inl ⟨(_, t), by simp, rfl⟩
        · exact (h5 i hi).mono (fun x hx => List.mem_append_right _ hx) fun x hx => List.mem_append_right _ hx
end
theorem gr_cov (t : T) (b : Nat) : ∃ N, (gr t b).nodes = (b, t) :: N ∧ Cov b (b + t.sz) (gr t b).nodes (gr t b).tops ∧ KidsIn (gr t b).nodes (gr t b).tops := by
  obtain ⟨N, M, h1, h2, h3, h4⟩ := T.grow_cov t b ⟨[], t.own, []⟩
  unfold gr
  rw [h1, h2]
  exact ⟨N, rfl, h3, h4⟩
/-- These sheets are of all that stands from lo to hi; they are numbered from me on. -/
structure Prt (lo hi me : Nat) (L : List Plan) : Prop where
  nod : L.Pairwise (fun p q => ∀ v ∈ p.nodes_, v ∉ q.nodes_)
  rng : ∀ p ∈ L, ∀ v ∈ p.nodes_, ∃ n : Nat, v = (n : Int) ∧ lo ≤ n ∧ n < hi
  all : ∀ n : Nat, lo ≤ n → n < hi → ∃ p ∈ L, (n : Int) ∈ p.nodes_
  hd : ∀ p ∈ L, p.top_ ∈ p.nodes_
  top : L.Pairwise (fun p q => p.top_ < q.top_)
  kid : L.Pairwise (fun p q => ∀ v ∈ p.kids_, v ∉ q.kids_)
  krng : ∀ p ∈ L, ∀ v ∈ p.kids_, ∃ n : Nat, v = (n : Int) ∧ me < n ∧ n < me + L.length
  kall : ∀ n : Nat, me < n → n < me + L.length → ∃ p ∈ L, (n : Int) ∈ p.kids_
  krise : ∀ p ∈ L, p.kids_.Pairwise (· < ·)
/-- The same of the sheets of trees that stand one behind the other; ks are the numbers of their first ones. -/
structure PrL (M : List (Nat × T)) (nx : Nat) (ks : List Int) (L : List Plan) : Prop where
  nod : L.Pairwise (fun p q => ∀ v ∈ p.nodes_, v ∉ q.nodes_)
  rng : ∀ p ∈ L, ∀ v ∈ p.nodes_, ∃ n : Nat, v = (n : Int) ∧ ∃ y ∈ M, y.1 ≤ n ∧ n < y.1 + y.2.sz
  all : ∀ y ∈ M, ∀ n : Nat, y.1 ≤ n → n < y.1 + y.2.sz → ∃ p ∈ L, (n : Int) ∈ p.nodes_
  hd : ∀ p ∈ L, p.top_ ∈ p.nodes_
  top : L.Pairwise (fun p q => p.top_ < q.top_)
  kid : L.Pairwise (fun p q => ∀ v ∈ p.kids_, v ∉ q.kids_)
  krng : ∀ p ∈ L, ∀ v ∈ p.kids_, ∃ n : Nat, v = (n : Int) ∧ nx < n ∧ n < nx + L.length
  krise : ∀ p ∈ L, p.kids_.Pairwise (· < ·)
  ksr : ks.Pairwise (· < ·)
  ksb : ∀ v ∈ ks, ∃ n : Nat, v = (n : Int) ∧ nx ≤ n ∧ n < nx + L.length
  kdis : ∀ v ∈ ks, ∀ p ∈ L, v ∉ p.kids_
  kall : ∀ n : Nat, nx ≤ n → n < nx + L.length → (n : Int) ∈ ks ∨ ∃ p ∈ L, (n : Int) ∈ p.kids_
theorem shL_prt {rc : T → Nat → Nat → List Plan} : ∀ (M : List (Nat × T)) (nx lo hi : Nat), AscI lo hi M → (∀ y ∈ M, ∀ me, Prt y.1 (y.1 + y.2.sz) me (rc y.2 y.1 me)) → PrL M nx (shL rc M nx).1 (shL rc M nx).2
  | [], nx, lo, hi, _, _ => by
    constructor <;> simp [shL]
  | y :: M, nx, lo, hi, hA, hR => by
    have h1 := hR y (List.mem_cons_self ..) nx
    have h2 := shL_prt (rc := rc) M (nx + (rc y.2 y.1 nx).length) lo hi ⟨(List.pairwise_cons.mp hA.1).2, fun x hx => hA.2 x (List.mem_cons_of_mem _ hx)⟩ (fun z hz => hR z (List.mem_cons_of_mem _ hz))
    have hfar := (List.pairwise_cons.mp hA.1).1
    have hpos : 0 < (rc y.2 y.1 nx).length := by
      have := T.sz_pos y.2
      obtain ⟨p, hp, -⟩ := h1.all y.1 (Nat.le_refl _) (by omega)
      exact List.length_pos_of_mem hp
    have hcross : ∀ p ∈ rc y.2 y.1 nx, ∀ q ∈ (shL rc M (nx + (rc y.2 y.1 nx).length)).2, ∀ v ∈ p.nodes_, ∀ w ∈ q.nodes_, v < w := by
      intro p hp q hq v hv w hw
      obtain ⟨n, e1, e2, e3⟩ := h1.rng p hp v hv
      obtain ⟨m, f1, z, f2, f3, f4⟩ := h2.rng q hq w hw
      have := hfar z f2
      omega
    simp only [shL]
    generalize hr : rc y.2 y.1 nx = A at *
    generalize hs : shL rc M (nx + A.length) = S at *
    obtain ⟨ks, L⟩ := S
    simp only at *
    refine ⟨?_, ?_, ?_, ?_, ?_, ?_, ?_, ?_, ?_, ?_, ?_, ?_⟩
    · refine List.pairwise_append.mpr ⟨h1.nod, h2.nod, fun p hp q hq v hv hw => ?_⟩
      have := hcross p hp q hq v hv v hw
      omega
    · intro p hp v hv
      rcases List.mem_append.mp hp with hp | hp
      · obtain ⟨n, e1, e2, e3⟩ := h1.rng p hp v hv
        exact ⟨n, e1, y, List.mem_cons_self .., e2, e3⟩
      · obtain ⟨n, e1, z, e2, e3⟩ := h2.rng p hp v hv
        exact ⟨n, e1, z, List.mem_cons_of_mem _ e2, e3⟩
    · intro z hz n g1 g2
      rcases List.mem_cons.mp hz with rfl | hz
      · obtain ⟨p, hp, e⟩ := h1.all n g1 g2
        exact ⟨p, List.mem_append_left _ hp, e⟩
      · obtain ⟨p, hp, e⟩ := h2.all z hz n g1 g2
        exact ⟨p, List.mem_append_right _ hp, e⟩
    · intro p hp
      rcases List.mem_append.mp hp with hp | hp
      · exact h1.hd p hp
      · exact h2.hd p hp
    · refine List.pairwise_append.mpr ⟨h1.top, h2.top, fun p hp q hq => ?_⟩
      exact hcross p hp q hq _ (h1.hd p hp) _ (h2.hd q hq)
    · refine List.pairwise_append.mpr ⟨h1.kid, h2.kid, fun p hp q hq v hv hw => ?_⟩
      obtain ⟨n, e1, e2, e3⟩ := h1.krng p hp v hv
      obtain ⟨m, f1, f2, f3⟩ := h2.krng q hq v hw
      omega
    · intro p hp v hv
      rw [List.length_append]
      rcases List.mem_append.mp hp with hp | hp
      · obtain ⟨n, e1, e2, e3⟩ := h1.krng p hp v hv
        exact ⟨n, e1, e2, by omega⟩
      · obtain ⟨n, e1, e2, e3⟩ := h2.krng p hp v hv
        exact ⟨n, e1, by omega, by omega⟩
    · intro p hp
      rcases List.mem_append.mp hp with hp | hp
      · exact h1.krise p hp
      · exact h2.krise p hp
    · refine List.pairwise_cons.mpr ⟨fun v hv => ?_, h2.ksr⟩
      obtain ⟨n, e1, e2, e3⟩ := h2.ksb v hv
      omega
    · intro v hv
      rw [List.length_append]
      rcases List.mem_cons.mp hv with rfl | hv
      · exact ⟨nx, rfl, Nat.le_refl _, by omega⟩
      · obtain ⟨n, e1, e2, e3⟩ := h2.ksb v hv
        exact ⟨n, e1, by omega, by omega⟩
    · intro v hv p hp hk
      rcases List.mem_cons.mp hv with rfl | hv <;> rcases List.mem_append.mp hp with hp | hp
      · obtain ⟨n, e1, e2, e3⟩ := h1.krng p hp _ hk
        omega
      · obtain ⟨n, e1, e2, e3⟩ := h2.krng p hp _ hk
        omega
      · obtain ⟨n, e1, e2, e3⟩ := h1.krng p hp _ hk
        obtain ⟨m, f1, f2, f3⟩ := h2.ksb v hv
        omega
      · exact h2.kdis v hv p hp hk
    · intro n g1 g2
      rw [List.length_append] at g2
      rcases Nat.lt_or_ge n (nx + A.length) with hn | hn
      · rcases Nat.eq_or_lt_of_le g1 with rfl | g1
        · exact .inl (List.mem_cons_self ..)
        · obtain ⟨p, hp, e⟩ := h1.kall n g1 hn
          exact .inr ⟨p, List.mem_append_left _ hp, e⟩
      · rcases h2.kall n hn (by omega) with h | ⟨p, hp, e⟩
        · exact .inl (List.mem_cons_of_mem _ h)
        · exact .inr ⟨p, List.mem_append_right _ hp, e⟩
theorem mem_ix {X : List (Nat × T)} {v : Int} : v ∈ ix X ↔ ∃ x ∈ X, (x.1 : Int) = v := by simp [ix]
theorem shs_parts {a : List Node} (pp : List ByteArray) : ∀ (k : Nat) (t : T) (b me : Nat), Lies a b t → t.ok → t.sz ≤ k → Prt b (b + t.sz) me (shs pp k t b me)
  | 0, t, b, me, hl, ho, hk => by have := T.sz_pos t; omega
  | k + 1, t, b, me, hl, ho, hk => by
    obtain ⟨N, hN, hC, -⟩ := gr_cov t b
    have htops := gr_tops (b := b) ho
    have hsts := (gr_sts hl ho).2
    have h := shL_prt (rc := shs pp k) (gr t b).tops (me + 1) b (b + t.sz) hC.int (fun y hy me => shs_parts pp k y.2 y.1 me (hsts y hy).1 (hsts y hy).2 (by have := szs_mem hy; omega))
    simp only [shs]
    generalize hs : shL (shs pp k) (gr t b).tops (me + 1) = S at *
    obtain ⟨ks, L⟩ := S
    simp only at *
    have hfst : (b : Int) ∈ ix (gr t b).nodes := mem_ix.mpr ⟨(b, t), by rw [hN]; exact List.mem_cons_self .., rfl⟩
    have hcross : ∀ v ∈ ix (gr t b).nodes, ∀ q ∈ L, v ∉ q.nodes_ := by
      intro v hv q hq hw
      obtain ⟨x, hx, rfl⟩ := mem_ix.mp hv
      obtain ⟨n, e1, z, e2, e3, e4⟩ := h.rng q hq _ hw
      have := hC.off x hx z e2
      omega
    refine ⟨?_, ?_, ?_, ?_, ?_, ?_, ?_, ?_, ?_⟩
    · exact List.pairwise_cons.mpr ⟨fun q hq v hv => hcross v hv q hq, h.nod⟩
    · intro p hp v hv
      rcases List.mem_cons.mp hp with rfl | hp
      · obtain ⟨x, hx, rfl⟩ := mem_ix.mp hv
        exact ⟨x.1, rfl, hC.asc.2 x hx⟩
      · obtain ⟨n, e1, z, e2, e3, e4⟩ := h.rng p hp v hv
        have := hC.int.2 z e2
        exact ⟨n, e1, by omega, by omega⟩
    · intro n g1 g2
      rcases hC.all n g1 g2 with ⟨x, hx, e⟩ | ⟨y, hy, e1, e2⟩
      · exact ⟨_, List.mem_cons_self .., mem_ix.mpr ⟨x, hx, by rw [e]⟩⟩
      · obtain ⟨p, hp, e⟩ := h.all y hy n e1 e2
        exact ⟨p, List.mem_cons_of_mem _ hp, e⟩
    · intro p hp
      rcases List.mem_cons.mp hp with rfl | hp
      · exact hfst
      · exact h.hd p hp
    · refine List.pairwise_cons.mpr ⟨fun q hq => ?_, h.top⟩
      obtain ⟨n, e1, z, e2, e3, e4⟩ := h.rng q hq _ (h.hd q hq)
      have h1 := hC.int.2 z e2
      have h2 := hC.off (b, t) (by rw [hN]; exact List.mem_cons_self ..) z e2
      have := T.sz_pos z.2
      simp only at h2
      show (b : Int) < q.top_
      omega
    · refine List.pairwise_cons.mpr ⟨fun q hq v hv => h.kdis v hv q hq, h.kid⟩
    · intro p hp v hv
      rw [List.length_cons]
      rcases List.mem_cons.mp hp with rfl | hp
      · obtain ⟨n, e1, e2, e3⟩ := h.ksb v hv
        exact ⟨n, e1, by omega, by omega⟩
      · obtain ⟨n, e1, e2, e3⟩ := h.krng p hp v hv
        exact ⟨n, e1, by omega, by omega⟩
    · intro n g1 g2
      rw [List.length_cons] at g2
      rcases h.kall n (by omega) (by omega) with e | ⟨p, hp, e⟩
      · exact ⟨_, List.mem_cons_self .., e⟩
      · exact ⟨p, List.mem_cons_of_mem _ hp, e⟩
    · intro p hp
      rcases List.mem_cons.mp hp with rfl | hp
      · exact h.ksr
      · exact h.krise p hp
theorem sheets_prt {l : List Pair} (hm : MayP l) (hl : l.length < 10000) : Prt 0 (tri l).length 0 (sheets l) := by
  by_cases he : l = []
  · subst he
    have e1 : tri ([] : List Pair) = [] := rfl
    have e2 : sheets ([] : List Pair) = [] := rfl
    rw [e1, e2]
    constructor <;> simp
  · have h0 : 0 < l.length := List.length_pos_iff.mpr he
    have hs : sheets l = shs (trp l) (tre l).sz (tre l) 0 0 := by rw [sheets, if_neg he]
    have := shs_parts (a := tri l) (trp l) (tre l).sz (tre l) 0 0 (tre_lies h0) (tre_ok hm (by omega) h0) (Nat.le_refl _)
    rw [← hs, Nat.zero_add, ← tri_len h0] at this
    exact this
theorem getD_mem {α : Type} {L : List α} {k : Nat} {d : α} (h : k < L.length) : L.getD k d ∈ L := by
  rw [List.getD_eq_getElem?_getD, List.getElem?_eq_getElem h]; exact List.getElem_mem h
theorem Ks.at_kid : ∀ {ks : Ks} {b m : Nat} {v : V16}, ks.at b v m → ∀ c, m ≤ c → c < 16 → vg v (c : Int) = 0 ∨ ∃ i : Nat, vg v (c : Int) = (i : Int) ∧ ks.kid b i
  | .nil, b, m, v, h, c, h1, h2 => .inl (h c h1 h2)
  | .cons c' t ks, b, m, v, h, c, h1, h2 => by
    obtain ⟨g1, g2, g3, g4, g5⟩ := h
    rcases Nat.lt_trichotomy c c' with hc | rfl | hc
    · exact .inl (g3 c h1 hc)
    · exact .inr ⟨b, g4, .inl rfl⟩
    · rcases Ks.at_kid g5 c hc h2 with h | ⟨i, h, h'⟩
      · exact .inl h
      · exact .inr ⟨i, h, .inr h'⟩
theorem sheet_kid {l : List Pair} (hm : MayP l) (hl : l.length < 10000) {k : Nat} (hk : k < (sheets l).length) {i : Int} (hi : i ∈ ((sheets l).getD k default).nodes_) {c : Nat} (hc : c < 16) :
    vg (gt (tri l) i).kids_ (c : Int) = 0 ∨ vg (gt (tri l) i).kids_ (c : Int) ∈ ((sheets l).getD k default).nodes_ ∨ ∃ m : Nat, (m : Int) ∈ ((sheets l).getD k default).kids_ ∧ m < (sheets l).length ∧ ((sheets l).getD m default).top_ = vg (gt (tri l) i).kids_ (c : Int) := by
  obtain ⟨b, t, e1, e2, e3, e4, e5, e6⟩ := sheets_ent hm hl hk
  obtain ⟨k1, k2⟩ := KOK.get e6
  obtain ⟨N, hN, hC, hK⟩ := gr_cov t b
  rw [e3] at hi ⊢
  obtain ⟨x, hx, rfl⟩ := mem_ix.mp hi
  obtain ⟨l1, l2⟩ := (gr_sts e1 e2).1 x hx
  have hkk := hK x hx
  obtain ⟨xb, lab, ks⟩ := x
  have hg := l1.get
  simp only at hg l2 ⊢
  rw [hg]
  have hv : (lab.node (ks.vec (xb + 1) v0)).kids_ = ks.vec (xb + 1) v0 := rfl
  rw [hv]
  rcases Ks.at_kid (Ks.at_vec0 (b := xb + 1) l2.2.1) c (Nat.zero_le _) hc with h | ⟨j, h, h'⟩
  · exact .inl h
  · rw [h]
    refine .inr ?_
    rcases hkk j h' with ⟨y, hy, rfl⟩ | ⟨y, hy, rfl⟩
    · exact .inl (mem_ix.mpr ⟨y, hy, rfl⟩)
    · obtain ⟨q, hq, rfl⟩ := List.mem_iff_getElem.mp hy
      obtain ⟨m, f1, f2, f3, f4⟩ := k2 q (by omega)
      refine .inr ⟨m, ?_, f3, ?_⟩
      · rw [← f1]
        exact getD_mem (by omega)
      · rw [f4, List.getD_eq_getElem?_getD, List.getElem?_eq_getElem hq, Option.getD_some]
end Go.Lf
/- Sheets by their numbers: what stands in them (of no law). -/
set_option linter.unusedVariables false
set_option linter.unusedSimpArgs false
namespace Go.Lf
open Go
theorem beq0 {n : Nat} (h : 0 < n) : ((n : Int) == 0) = false := by rw [beq_eq_false_iff_ne]; omega
/-- The nodes, the numbers of a list's sheet. -/
def Nd (P : List Plan) (k : Nat) : List Int := (P.getD k default).nodes_
def Kd (P : List Plan) (k : Nat) : List Int := (P.getD k default).kids_
theorem mem_getD {α : Type} {L : List α} {x d : α} (h : x ∈ L) : ∃ k, k < L.length ∧ L.getD k d = x := by
  obtain ⟨k, hk, rfl⟩ := List.mem_iff_getElem.mp h
  exact ⟨k, hk, by rw [List.getD_eq_getElem?_getD, List.getElem?_eq_getElem hk]; rfl⟩
theorem pw_getD {α : Type} {R : α → α → Prop} {L : List α} {d : α} (h : L.Pairwise R) {i j : Nat} (hij : i < j) (hj : j < L.length) : R (L.getD i d) (L.getD j d) := by
  rw [List.getD_eq_getElem?_getD, List.getD_eq_getElem?_getD, List.getElem?_eq_getElem hj, List.getElem?_eq_getElem (by omega)]
  exact List.pairwise_iff_getElem.mp h i j (by omega) hj hij
theorem take_succ_getD {L : List Int} {i : Nat} (h : i < L.length) : L.take (i + 1) = L.take i ++ [L.getD i default] := by
  rw [List.take_add_one, List.getElem?_eq_getElem h, List.getD_eq_getElem?_getD, List.getElem?_eq_getElem h]
  rfl
theorem rise_new {L : List Int} (h : L.Pairwise (· < ·)) {i : Nat} (hi : i < L.length) : L.getD i default ∉ L.take i := by
  intro hm
  obtain ⟨j, hj, e⟩ := mem_getD (d := default) hm
  rw [List.length_take] at hj
  have e' : (L.take i).getD j default = L.getD j default := by
    rw [List.getD_eq_getElem?_getD, List.getD_eq_getElem?_getD, List.getElem?_take, if_pos (by omega)]
  have := pw_getD (d := default) h (show j < i by omega) hi
  rw [e'] at e
  omega
theorem getD_set {X : List Int} {v u : Nat} {x d : Int} (hv : v < X.length) : (X.set v x).getD u d = if u = v then x else X.getD u d := by
  rw [List.getD_eq_getElem?_getD, List.getD_eq_getElem?_getD, List.getElem?_set]
  split
  · rename_i h
    subst h
    simp [hv]
  · rename_i h
    rw [if_neg (fun e => h e.symm)]
section
variable {l : List Pair} (hm : MayP l) (hl : l.length < 10000)
include hm hl
theorem nd_rise {k : Nat} (hk : k < (sheets l).length) : (Nd (sheets l) k).Pairwise (· < ·) := by
  obtain ⟨b, t, e1, e2, e3, e4, e5, e6⟩ := sheets_ent hm hl hk
  obtain ⟨N, hN, hC, -⟩ := gr_cov t b
  unfold Nd
  rw [e3]
  unfold ix
  rw [List.pairwise_map]
  exact hC.asc.1.imp fun h => by omega
theorem nd_rng {k : Nat} (hk : k < (sheets l).length) {v : Int} (hv : v ∈ Nd (sheets l) k) : ∃ n : Nat, v = (n : Int) ∧ n < (tri l).length := by
  obtain ⟨n, h1, -, h2⟩ := (sheets_prt hm hl).rng _ (getD_mem hk) v hv
  exact ⟨n, h1, h2⟩
theorem nd_len {k : Nat} (hk : k < (sheets l).length) : (Nd (sheets l) k).length < 1000000 := by
  obtain ⟨b, t, e1, e2, e3, e4, e5, e6⟩ := sheets_ent hm hl hk
  obtain ⟨s1, s2⟩ := sheets_len hm hl
  obtain ⟨c1, -, -⟩ := T.grow_sum t b ⟨[], t.own, []⟩
  have : (gr t b).nodes.length ≤ t.sz := by
    unfold gr
    simp only [List.length_nil, szs] at c1
    omega
  have := e1.lt
  unfold Nd
  rw [e3, ix_len]
  omega
theorem nd_dis {j k : Nat} (hk : k < (sheets l).length) (hj : j < k) {v : Int} (hv : v ∈ Nd (sheets l) k) : v ∉ Nd (sheets l) j := fun h =>
  pw_getD (sheets_prt hm hl).nod hj hk v h hv
theorem kd_dis {j k : Nat} (hk : k < (sheets l).length) (hj : j < k) {v : Int} (hv : v ∈ Kd (sheets l) k) : v ∉ Kd (sheets l) j := fun h =>
  pw_getD (sheets_prt hm hl).kid hj hk v h hv
theorem kd_rng {k : Nat} (hk : k < (sheets l).length) {v : Int} (hv : v ∈ Kd (sheets l) k) : ∃ n : Nat, v = (n : Int) ∧ k < n ∧ n < (sheets l).length := by
  obtain ⟨b, t, e1, e2, e3, e4, e5, e6⟩ := sheets_ent hm hl hk
  obtain ⟨k1, k2⟩ := KOK.get e6
  obtain ⟨j, hj, rfl⟩ := mem_getD (d := default) hv
  obtain ⟨m, h1, h2, h3, -⟩ := k2 j hj
  exact ⟨m, h1, h2, h3⟩
theorem nd_all {i : Nat} (hi : i < (tri l).length) : ∃ k, k < (sheets l).length ∧ (i : Int) ∈ Nd (sheets l) k := by
  obtain ⟨p, hp, h⟩ := (sheets_prt hm hl).all i (Nat.zero_le _) hi
  obtain ⟨k, hk, rfl⟩ := mem_getD (d := default) hp
  exact ⟨k, hk, h⟩
end
end Go.Lf
/- The document's way to make sheets: sizes, how a sheet grows. -/
set_option linter.unusedVariables false
set_option linter.unusedSimpArgs false
namespace Go.Lf
open Go
theorem rsize_l0 {nd : Node} : ∀ (fuel m : Nat) (ks : Ks) (bk s : Nat), 16 - m < fuel → m ≤ 16 → ks.at bk nd.kids_ m → 0 < bk → s ≤ 100 + 3 * m → ref19_size.l0 nd fuel ((s : Int), (m : Int)) = some ((s + 3 * ks.cnt : Nat) : Int)
  | 0, m, ks, bk, s, h, _, _, _, _ => by omega
  | fuel + 1, m, ks, bk, s, h, hm, hat, hb, hs => by
    rw [ref19_size.l0]
    rcases Nat.lt_or_ge m 16 with h16 | h16
    · rw [bif_true (decide_eq_true (by omega)), gd_pos (by omega), w64_nat (x := (m : Int) + 1) (k := m + 1) (by simp) (by omega)]
      rcases Ks.at_step hat h16 with ⟨h0, hat'⟩ | ⟨t, r, rfl, h0, hat'⟩
      · rw [h0, bif_false (c := (0 : Int) != 0) rfl, Option.bind_some]
        exact rsize_l0 fuel (m + 1) ks bk s (by omega) (by omega) hat' hb (by omega)
      · rw [h0, bif_true (c := (bk : Int) != 0) (by simp; omega), Option.bind_some, w64_nat (x := (s : Int) + 3) (k := s + 3) (by simp) (by omega)]
        rw [rsize_l0 fuel (m + 1) r (bk + t.sz) (s + 3) (by omega) (by omega) hat' (by omega) (by omega), Ks.cnt]
        congr 2
        omega
    · rw [bif_false (decide_eq_false (by omega))]
      have : ks = .nil := by
        cases ks with
        | nil => rfl
        | cons c t r =>
          obtain ⟨h1, h2, -⟩ := hat
          omega
      subst this
      simp [Ks.cnt]
theorem rsize_ok {a : List Node} {b : Nat} {t : T} (h : Lies a b t) (hk : t.ok) : ref19_size.f (gt a (b : Int)) = some ((t.own : Nat) : Int) := by
  obtain ⟨l, ks⟩ := t
  obtain ⟨⟨h1, h2, h3, h4⟩, h5, h6⟩ := hk
  rw [h.get]
  unfold ref19_size.f
  have hat : ks.at (b + 1) (l.node (ks.vec (b + 1) v0)).kids_ 0 := Ks.at_vec0 h5
  have e1 : (l.node (ks.vec (b + 1) v0)).kind_ = l.kind := rfl
  have e2 : (l.node (ks.vec (b + 1) v0)).has_ = l.has := rfl
  have e3 : (l.node (ks.vec (b + 1) v0)).value_ = l.value := rfl
  have e4 : (l.node (ks.vec (b + 1) v0)).path_ = l.path := rfl
  rw [e1, e2, e3, e4, T.own]
  have hl : ∀ s : Nat, s ≤ 100 → ref19_size.l0 (l.node (ks.vec (b + 1) v0)) BIG ((s : Int), 0) = some ((s + 3 * ks.cnt : Nat) : Int) := by
    intro s hs
    have := rsize_l0 BIG 0 ks (b + 1) s (by have := BIG_ge; omega) (by omega) hat (by omega) (by omega)
    rwa [show ((0 : Nat) : Int) = 0 from rfl] at this
  have hp : w64 (1 + (w64 (1 + (w64 ((w64 ((l.path.size : Int) + 1)).tdiv 2))))) = ((2 + (l.path.size + 1) / 2 : Nat) : Int) := by
    rw [w64_nat (x := (l.path.size : Int) + 1) (k := l.path.size + 1) (by simp) (by omega)]
    have : ((l.path.size + 1 : Nat) : Int).tdiv 2 = (((l.path.size + 1) / 2 : Nat) : Int) := by
      rw [Int.tdiv_eq_ediv_of_nonneg (by omega)]; omega
    rw [this, w64_nat (x := (((l.path.size + 1) / 2 : Nat) : Int)) (k := (l.path.size + 1) / 2) rfl (by omega), w64_nat (x := 1 + (((l.path.size + 1) / 2 : Nat) : Int)) (k := 1 + (l.path.size + 1) / 2) (by omega) (by omega), w64_nat (k := 2 + (l.path.size + 1) / 2) (by omega) (by omega)]
  by_cases k1 : l.kind = 1
  · rw [bif_true (c := l.kind == 1) (by simp [k1]), if_neg (by omega), if_neg (by omega), hp, w64_nat (x := ((2 + (l.path.size + 1) / 2 : Nat) : Int) + 1) (k := 3 + (l.path.size + 1) / 2) (by omega) (by omega), w64_nat (k := 3 + (l.path.size + 1) / 2 + l.value.size) (by omega) (by omega)]
  · rw [bif_false (c := l.kind == 1) (by simp [k1])]
    by_cases k2 : l.kind = 2
    · rw [bif_true (c := l.kind == 2) (by simp [k2]), if_neg (by omega), if_pos k2, hp, w64_nat (k := 5 + (l.path.size + 1) / 2) (by omega) (by omega)]
    · have k3 : l.kind = 3 := by omega
      rw [bif_false (c := l.kind == 2) (by simp [k2]), if_pos k3]
      cases hh : l.has
      · rw [bif_false rfl, Option.bind_some, show (4 : Int) = ((4 : Nat) : Int) from rfl, hl 4 (by omega)]
        simp
      · rw [bif_true rfl, w64_nat (x := 1 + (l.value.size : Int)) (k := 1 + l.value.size) (by simp) (by omega), w64_nat (x := 4 + ((1 + l.value.size : Nat) : Int)) (k := 4 + (1 + l.value.size)) (by simp) (by omega), Option.bind_some, hl _ (by omega)]
        simp
/-- One number is laid at the places of many nodes. -/
def sets (X : List Int) (L : List (Nat × T)) (v : Int) : List Int := L.foldl (fun X y => X.set y.1 v) X
theorem sets_app (X : List Int) (L M : List (Nat × T)) (v : Int) : sets X (L ++ M) v = sets (sets X L v) M v := List.foldl_append ..
theorem sets_len : ∀ (L : List (Nat × T)) (X : List Int) (v : Int), (sets X L v).length = X.length
  | [], X, v => rfl
  | y :: L, X, v => by
    show (sets (X.set y.1 v) L v).length = _
    rw [sets_len L, List.length_set]
theorem sets_in {v d : Int} {u : Nat} : ∀ (L : List (Nat × T)) (X : List Int), u < X.length → (u : Int) ∈ ix L → (sets X L v).getD u d = v
  | [], X, _, h => by simp [ix] at h
  | y :: L, X, hX, h => by
    show (sets (X.set y.1 v) L v).getD u d = v
    by_cases hL : (u : Int) ∈ ix L
    · exact sets_in L _ (by rw [List.length_set]; exact hX) hL
    · have hy : y.1 = u := by
        simp only [ix, List.map_cons, List.mem_cons] at h
        rcases h with h | h
        · omega
        · exact absurd h hL
      have key : ∀ (L : List (Nat × T)) (X : List Int), (u : Int) ∉ ix L → (sets X L v).getD u d = X.getD u d := by
        intro L
        induction L with
        | nil => intros; rfl
        | cons z L ih =>
          intro X hz
          simp only [ix, List.map_cons, List.mem_cons, not_or] at hz
          show (sets (X.set z.1 v) L v).getD u d = _
          rw [ih _ hz.2, List.getD_eq_getElem?_getD, List.getElem?_set, if_neg (by omega), List.getD_eq_getElem?_getD]
      rw [key L _ hL, getD_set (by omega), if_pos hy.symm]
theorem sets_out {v d : Int} {u : Nat} : ∀ (L : List (Nat × T)) (X : List Int), (u : Int) ∉ ix L → (sets X L v).getD u d = X.getD u d
  | [], X, _ => rfl
  | y :: L, X, h => by
    simp only [ix, List.map_cons, List.mem_cons, not_or] at h
    show (sets (X.set y.1 v) L v).getD u d = _
    rw [sets_out L _ h.2, List.getD_eq_getElem?_getD, List.getElem?_set, if_neg (by omega), List.getD_eq_getElem?_getD]
abbrev DRec := (List Node) → (List ByteArray) → (List Int) → (List Int) → Int → Int → Int → Option (Int × List Int × List Int)
def GrowD (a : List Node) (pp : List ByteArray) (rc : DRec) (t : T) (b : Nat) : Prop :=
  ∀ (s : Gs) (of tops : List Int) (sheet : Int), s.used ≤ 243 → of.length = a.length → tops.length = a.length → ∃ N M, (t.grow b s).nodes = s.nodes ++ (b, t) :: N ∧ (t.grow b s).tops = s.tops ++ M ∧
    rc a pp of tops (b : Int) sheet (s.used : Int) = some (((t.grow b s).used : Int), sets of N sheet, sets tops M 1)
theorem dgrow_l0 {a : List Node} (ha : a.length ≤ 1000000000) {pp : List ByteArray} {f : Nat} (hf : f < a.length) {sheet : Int} {rc : DRec} :
    ∀ (fuel m : Nat) (ks : Ks) (bk : Nat) (s : Gs) (of tops : List Int), 16 - m < fuel → m ≤ 16 → ks.at bk (gt a (f : Int)).kids_ m → 0 < bk → ks.ok → ks.all (LL a) bk → ks.all (GrowD a pp rc) bk → s.used ≤ 243 → of.length = a.length → tops.length = a.length →
      ∃ N M, (ks.grow bk s).nodes = s.nodes ++ N ∧ (ks.grow bk s).tops = s.tops ++ M ∧ ref19_maker_grow.l0 a pp (f : Int) sheet rc fuel (of, tops, (s.used : Int), (m : Int)) = some (sets of N sheet, sets tops M 1, ((ks.grow bk s).used : Int))
  | 0, m, ks, bk, s, of, tops, h, _, _, _, _, _, _, _, _, _ => by omega
  | fuel + 1, m, ks, bk, s, of, tops, h, hm, hat, hb, hok, hli, hre, hu, ho, ht => by
    rw [ref19_maker_grow.l0]
    rcases Nat.lt_or_ge m 16 with h16 | h16
    · rw [bif_true (decide_eq_true (by omega)), gd_pos (by omega), gd_pos (by omega), w64_nat (x := (m : Int) + 1) (k := m + 1) (by simp) (by omega)]
      rcases Ks.at_step hat h16 with ⟨h0, hat'⟩ | ⟨t, r, rfl, h0, hat'⟩
      · rw [h0, bif_true (c := (0 : Int) == 0) rfl]
        simp only [Option.bind_some]
        exact dgrow_l0 ha hf fuel (m + 1) ks bk s of tops (by omega) (by omega) hat' hb hok hli hre hu ho ht
      · have hlt := hli.1.lt
        have hpos := T.sz_pos t
        have hown := T.own_ge t
        have hle := T.own_le hok.1
        have hw : w64 ((w64 ((s.used : Int) + ((t.own : Nat) : Int))) - 3) = ((s.used + (t.own - 3) : Nat) : Int) := by
          rw [w64_nat (x := (s.used : Int) + ((t.own : Nat) : Int)) (k := s.used + t.own) (by omega) (by omega), w64_nat (k := s.used + (t.own - 3)) (by omega) (by omega)]
        rw [h0, bif_false (c := (bk : Int) == 0) (by simp; omega), gd_pos (by omega), rsize_ok hli.1 hok.1]
        simp only [Option.bind_some]
        rw [hw, Ks.grow]
        by_cases hc : 243 < s.used + (t.own - 3)
        · rw [bif_false (decide_eq_false (by omega)), gd_pos (by omega), if_pos hc, Int.toNat_natCast]
          simp only [Option.bind_some]
          obtain ⟨N, M, h1, h2, h3⟩ := dgrow_l0 ha hf fuel (m + 1) r (bk + t.sz) { s with tops := s.tops ++ [(bk, t)] } of (tops.set bk 1) (by omega) (by omega) hat' (by omega) hok.2 hli.2 hre.2 hu ho (by rw [List.length_set]; exact ht)
          exact ⟨N, (bk, t) :: M, h1, by rw [h2]; simp, h3⟩
        · rw [bif_true (decide_eq_true (by omega)), gd_pos (by omega), gd_pos (by omega), if_neg hc, Int.toNat_natCast]
          obtain ⟨N1, M1, g1, g2, g3⟩ := hre.1 { s with used := s.used + (t.own - 3) } (of.set bk sheet) tops sheet (by show s.used + (t.own - 3) ≤ 243; omega) (by rw [List.length_set]; exact ho) ht
          rw [g3]
          simp only [Option.bind_some]
          have h2 := T.grow_len t bk { s with used := s.used + (t.own - 3) }
          obtain ⟨N, M, k1, k2, k3⟩ := dgrow_l0 ha hf fuel (m + 1) r (bk + t.sz) (t.grow bk { s with used := s.used + (t.own - 3) }) (sets (of.set bk sheet) N1 sheet) (sets tops M1 1) (by omega) (by omega) hat' (by omega) hok.2 hli.2 hre.2 (h2.2 (by show s.used + (t.own - 3) ≤ 243; omega)) (by rw [sets_len, List.length_set]; exact ho) (by rw [sets_len]; exact ht)
          refine ⟨(bk, t) :: N1 ++ N, M1 ++ M, by rw [k1, g1]; simp, by rw [k2, g2]; simp, ?_⟩
          rw [k3, sets_app, sets_app]
          rfl
    · rw [bif_false (decide_eq_false (by omega))]
      have : ks = .nil := by
        cases ks with
        | nil => rfl
        | cons c t r =>
          obtain ⟨h1, h2, -⟩ := hat
          omega
      subst this
      exact ⟨[], [], by simp [Ks.grow], by simp [Ks.grow], rfl⟩
mutual
theorem T.growD {a : List Node} (ha : a.length ≤ 1000000000) {pp : List ByteArray} : ∀ (t : T) (b kk : Nat), Lies a b t → t.ok → t.sz ≤ kk → GrowD a pp (ref19_maker_grow.f kk) t b
  | .node l ks, b, 0, hli, hok, hk => by have := T.sz_pos (.node l ks); omega
  | .node l ks, b, kk + 1, hli, hok, hk => by
    intro s of tops sheet hu ho ht
    have hlt := hli.lt
    have hsz : (T.node l ks).sz = ks.sz + 1 := rfl
    rw [ref19_maker_grow.f]
    have hat : ks.at (b + 1) (gt a (b : Int)).kids_ 0 := by rw [hli.get]; exact Ks.at_vec0 hok.2.1
    obtain ⟨N, M, h1, h2, h3⟩ := dgrow_l0 ha (pp := pp) (f := b) (sheet := sheet) (by omega) (rc := ref19_maker_grow.f kk) BIG 0 ks (b + 1) { s with nodes := s.nodes ++ [(b, .node l ks)] } of tops (by have := BIG_ge; omega) (by omega) hat (by omega) hok.2.2 hli.kids (Ks.growD ha ks (b + 1) kk hli.kids hok.2.2 (by omega)) hu ho ht
    rw [show ((0 : Nat) : Int) = 0 from rfl] at h3
    refine ⟨N, M, by rw [T.grow, h1]; simp, by rw [T.grow, h2], ?_⟩
    have h3' : ref19_maker_grow.l0 a pp (b : Int) sheet (ref19_maker_grow.f kk) BIG (of, tops, (s.used : Int), 0) = _ := h3
    rw [h3']
    rfl
theorem Ks.growD {a : List Node} (ha : a.length ≤ 1000000000) {pp : List ByteArray} : ∀ (ks : Ks) (b kk : Nat), ks.all (LL a) b → ks.ok → ks.sz ≤ kk → ks.all (GrowD a pp (ref19_maker_grow.f kk)) b
  | .nil, b, kk, _, _, _ => trivial
  | .cons c t ks, b, kk, hli, hok, hk => by
    have hsz : (Ks.cons c t ks).sz = t.sz + ks.sz := rfl
    exact ⟨T.growD ha t b kk hli.1 hok.1 (by omega), Ks.growD ha ks (b + t.sz) kk hli.2 hok.2 (by omega)⟩
end
end Go.Lf
/- The document's sheets, first part: Tops in order; of each node its sheet. -/
set_option linter.unusedVariables false
set_option linter.unusedSimpArgs false
namespace Go.Lf
open Go
def skel (p : Plan) : Plan := ⟨p.prefix_, p.top_, [], []⟩
/-- The Top of a sheet, by its number. -/
def tpo (l : List Pair) (m : Nat) : Int := ((sheets l).getD m default).top_
structure Dst (l : List Pair) (K i : Nat) (of tops : List Int) (plans : List Plan) : Prop where
  kle : K ≤ (sheets l).length
  bef : ∀ m, m < K → tpo l m < (i : Int)
  aft : ∀ m, K ≤ m → m < (sheets l).length → (i : Int) ≤ tpo l m
  pls : plans = ((sheets l).take K).map skel
  ofl : of.length = (tri l).length
  tol : tops.length = (tri l).length
  ofv : ∀ m, m < K → ∀ u : Nat, (u : Int) ∈ Nd (sheets l) m → of.getD u default = (m : Int)
  t1 : ∀ u : Nat, (∀ m, m < (sheets l).length → tpo l m ≠ (u : Int)) → tops.getD u default = 0
  t2 : ∀ m, m < K → tops.getD (tpo l m).toNat default = (m : Int) + 1
  t3 : ∀ j, j < K → ∀ m : Nat, (m : Int) ∈ Kd (sheets l) j → K ≤ m → tops.getD (tpo l m).toNat default = 1
theorem dst_skip {l : List Pair} {K i : Nat} {of tops : List Int} {plans : List Plan} (h : Dst l K i of tops plans) (hi : ∀ m, m < (sheets l).length → tpo l m ≠ (i : Int)) : Dst l K (i + 1) of tops plans := by
  refine ⟨h.kle, fun m hmk => by have := h.bef m hmk; omega, fun m h5 h6 => ?_, h.pls, h.ofl, h.tol, h.ofv, h.t1, h.t2, h.t3⟩
  have := h.aft m h5 h6
  have := hi m h6
  omega
section
variable {l : List Pair} (hm : MayP l) (hl : l.length < 10000)
include hm hl
theorem tpo_rise {j k : Nat} (hj : j < k) (hk : k < (sheets l).length) : tpo l j < tpo l k := pw_getD (sheets_prt hm hl).top hj hk
theorem tpo_in {k : Nat} (hk : k < (sheets l).length) : tpo l k ∈ Nd (sheets l) k := (sheets_prt hm hl).hd _ (getD_mem hk)
theorem tpo_nat {k : Nat} (hk : k < (sheets l).length) : ∃ n : Nat, tpo l k = (n : Int) ∧ n < (tri l).length := nd_rng hm hl hk (tpo_in hm hl hk)
theorem tpo_zero (h0 : 0 < (sheets l).length) : tpo l 0 = 0 := by
  by_cases he : l = []
  · subst he
    simp [sheets] at h0
  · have hs : sheets l = shs (trp l) (tre l).sz (tre l) 0 0 := by rw [sheets, if_neg he]
    obtain ⟨r, h1, h2, h3⟩ := shs_head (trp l) (tre l).sz (tre l) 0 0 (T.sz_pos _)
    unfold tpo
    rw [hs, h1, h3]
    rfl
theorem kd_par {m : Nat} (h0 : 0 < m) (hk : m < (sheets l).length) : ∃ j, j < m ∧ (m : Int) ∈ Kd (sheets l) j := by
  obtain ⟨p, hp, h⟩ := (sheets_prt hm hl).kall m h0 (by omega)
  obtain ⟨j, hj, rfl⟩ := mem_getD (d := default) hp
  obtain ⟨n, h1, h2, h3⟩ := kd_rng hm hl hj h
  exact ⟨j, by omega, h⟩
theorem dst_step {K i : Nat} {of tops : List Int} {plans : List Plan} (h : Dst l K i of tops plans) (hK : K < (sheets l).length) (hi : tpo l K = (i : Int)) {t : T} (h1 : Lies (tri l) i t) (h2 : t.ok) (h3 : Nd (sheets l) K = ix (gr t i).nodes) (h4 : KOK (sheets l) K (Kd (sheets l) K) (gr t i).tops) {N M : List (Nat × T)} (hN : (gr t i).nodes = (i, t) :: N) (hM : (gr t i).tops = M) :
    Dst l (K + 1) (i + 1) (sets (of.set i (K : Int)) N (K : Int)) (sets (tops.set i ((K : Int) + 1)) M 1) (plans ++ [skel ((sheets l).getD K default)]) := by
  have hnd : ∀ u : Nat, (u : Int) ∈ Nd (sheets l) K ↔ u = i ∨ (u : Int) ∈ ix N := by
    intro u
    rw [h3, hN]
    simp only [ix, List.map_cons, List.mem_cons]
    constructor
    · rintro (h | h)
      · exact .inl (by omega)
      · exact .inr h
    · rintro (h | h)
      · exact .inl (by rw [h])
      · exact .inr h
  have hin : i < (tri l).length := by
    obtain ⟨n, e1, e2⟩ := tpo_nat hm hl hK
    omega
  obtain ⟨k1, k2⟩ := KOK.get h4
  rw [hM] at k1 k2
  have hMt : ∀ u : Nat, (u : Int) ∈ ix M → ∃ m, K < m ∧ m < (sheets l).length ∧ tpo l m = (u : Int) := by
    intro u hu
    obtain ⟨y, hy, e⟩ := mem_ix.mp hu
    obtain ⟨q, hq, rfl⟩ := List.mem_iff_getElem.mp hy
    obtain ⟨m, f1, f2, f3, f4⟩ := k2 q (by omega)
    refine ⟨m, f2, f3, ?_⟩
    unfold tpo
    rw [f4, List.getD_eq_getElem?_getD, List.getElem?_eq_getElem hq, Option.getD_some]
    exact e
  have hkM : ∀ m : Nat, (m : Int) ∈ Kd (sheets l) K → ((tpo l m).toNat : Int) ∈ ix M := by
    intro m hmk
    obtain ⟨q, hq, e⟩ := mem_getD (d := default) hmk
    obtain ⟨m', f1, f2, f3, f4⟩ := k2 q hq
    have : m' = m := by omega
    subst this
    unfold tpo
    rw [f4, Int.toNat_natCast]
    exact mem_ix.mpr ⟨_, getD_mem (by omega), rfl⟩
  have hiM : (i : Int) ∉ ix M := fun hx => by
    obtain ⟨m, g1, g2, g3⟩ := hMt i hx
    have := tpo_rise hm hl g1 g2
    omega
  refine ⟨hK, fun m hmk => ?_, fun m h5 h6 => ?_, ?_, by rw [sets_len, List.length_set, h.ofl], by rw [sets_len, List.length_set, h.tol], fun m hmk u hu => ?_, fun u hu => ?_, fun m hmk => ?_, fun j hj m hmk hkm => ?_⟩
  · rcases Nat.lt_or_ge m K with h5 | h5
    · have := h.bef m h5
      omega
    · have : m = K := by omega
      subst this
      omega
  · have := tpo_rise hm hl (show K < m by omega) h6
    omega
  · have e : (sheets l).take (K + 1) = (sheets l).take K ++ [(sheets l).getD K default] := by
      rw [List.take_add_one, List.getElem?_eq_getElem hK, List.getD_eq_getElem?_getD, List.getElem?_eq_getElem hK]
      rfl
    rw [e, List.map_append, ← h.pls]
    rfl
  · rcases Nat.lt_or_ge m K with h5 | h5
    · have hno : (u : Int) ∉ Nd (sheets l) K := fun hx => nd_dis hm hl hK h5 hx hu
      rw [hnd] at hno
      rw [sets_out _ _ (fun hx => hno (.inr hx)), getD_set (by rw [h.ofl]; exact hin), if_neg (fun e => hno (.inl e))]
      exact h.ofv m h5 u hu
    · have : m = K := by omega
      subst this
      by_cases hx : (u : Int) ∈ ix N
      · obtain ⟨n, e1, e2⟩ := nd_rng hm hl hK hu
        exact sets_in _ _ (by rw [List.length_set, h.ofl]; omega) hx
      · rw [sets_out _ _ hx, getD_set (by rw [h.ofl]; exact hin), if_pos (((hnd u).mp hu).resolve_right hx)]
  · have hx : (u : Int) ∉ ix M := fun hx => by
      obtain ⟨m, g1, g2, g3⟩ := hMt u hx
      exact hu m g2 g3
    rw [sets_out _ _ hx, getD_set (by rw [h.tol]; exact hin), if_neg (fun e => hu K hK (by rw [hi, e]))]
    exact h.t1 u hu
  · have hml : m < (sheets l).length := by omega
    obtain ⟨n, e1, e2⟩ := tpo_nat hm hl hml
    have hx : ((tpo l m).toNat : Int) ∉ ix M := fun hx => by
      obtain ⟨m', g1, g2, g3⟩ := hMt _ hx
      have := tpo_rise hm hl (show m < m' by omega) g2
      omega
    rw [sets_out _ _ hx, getD_set (by rw [h.tol]; exact hin)]
    rcases Nat.lt_or_ge m K with h5 | h5
    · have := tpo_rise hm hl h5 hK
      rw [if_neg (by omega)]
      exact h.t2 m h5
    · have : m = K := by omega
      subst this
      rw [if_pos (by omega)]
  · by_cases hx : ((tpo l m).toNat : Int) ∈ ix M
    · refine sets_in _ _ ?_ hx
      obtain ⟨m', g1, g2, g3⟩ := hMt _ hx
      obtain ⟨n, e1, e2⟩ := tpo_nat hm hl g2
      rw [List.length_set, h.tol]
      omega
    · rcases Nat.lt_or_ge j K with h5 | h5
      · obtain ⟨n, e1, e2, e3⟩ := kd_rng hm hl (show j < (sheets l).length by omega) hmk
        have hml : m < (sheets l).length := by omega
        have := tpo_rise hm hl (show K < m by omega) hml
        rw [sets_out _ _ hx, getD_set (by rw [h.tol]; exact hin), if_neg (by omega)]
        exact h.t3 j h5 m hmk (by omega)
      · have : j = K := by omega
        subst this
        exact absurd (hkM m hmk) hx
theorem r19_l0 {y : ref10_Both_T} (hy : y.p_ = trp l) : ∀ (fuel K i : Nat) (of tops : List Int) (plans : List Plan), (tri l).length - i < fuel → i ≤ (tri l).length → Dst l K i of tops plans →
    ∃ of' tops' plans', ref19_Of.l0 (tri l) y fuel (of, tops, plans, (i : Int)) = some (of', tops', plans') ∧ Dst l (sheets l).length (tri l).length of' tops' plans'
  | 0, K, i, of, tops, plans, h, _, _ => by omega
  | fuel + 1, K, i, of, tops, plans, h, hi, hD => by
    obtain ⟨s1, s2⟩ := sheets_len hm hl
    have hpl : plans.length = K := by
      rw [hD.pls, List.length_map, List.length_take]
      have := hD.kle
      omega
    have hofl := hD.ofl
    have htol := hD.tol
    have hkle := hD.kle
    rw [ref19_Of.l0]
    rcases Nat.lt_or_ge i (tri l).length with hlt | hge
    · rw [bif_true (decide_eq_true (by omega)), w64_nat (x := (i : Int) + 1) (k := i + 1) (by simp) (by omega)]
      have h0 : 0 < l.length := by
        rcases Nat.eq_zero_or_pos l.length with h | h
        · have : l = [] := List.length_eq_zero_iff.mp h
          subst this
          simp [tri] at hlt
        · exact h
      by_cases hT : K < (sheets l).length ∧ tpo l K = (i : Int)
      · obtain ⟨hK, hT⟩ := hT
        obtain ⟨b, t, e1, e2, e3, e4, e5, e6⟩ := sheets_ent hm hl hK
        have hb : b = i := by
          unfold tpo at hT
          omega
        subst hb
        have hc : (bif decide ((b : Int) > 0) then gd (0 ≤ (b : Int) ∧ (b : Int) < (tops.length : Int)) <| some ((gt tops (b : Int)) == 0) else some false) = some false := by
          by_cases hb0 : 0 < b
          · rw [bif_true (decide_eq_true (by omega)), gd_pos (by omega)]
            have hK0 : 0 < K := by
              rcases Nat.eq_zero_or_pos K with h | h
              · subst h
                have := tpo_zero hm hl hK
                omega
              · exact h
            obtain ⟨j, j1, j2⟩ := kd_par hm hl hK0 hK
            have := hD.t3 j j1 K j2 (Nat.le_refl _)
            rw [hT, Int.toNat_natCast] at this
            rw [gt_nat, this]
            rfl
          · rw [bif_false (decide_eq_false (by omega))]
        have htp : (trp l).length = (tri l).length := trp_len
        obtain ⟨N, M, g1, g2, g3⟩ := T.growD (a := tri l) (by omega) (pp := trp l) t b BIG e1 e2 (by have := e1.lt; have := BIG_ge; omega) ⟨[], t.own, []⟩ (of.set b (K : Int)) (tops.set b ((K : Int) + 1)) (K : Int) (by have := T.own_le e2; show t.own ≤ 243; omega) (by rw [List.length_set]; exact hofl) (by rw [List.length_set]; exact htol)
        have g3' : ref19_maker_grow.f BIG (tri l) (trp l) (of.set b (K : Int)) (tops.set b ((K : Int) + 1)) (b : Int) (K : Int) ((t.own : Nat) : Int) = _ := g3
        have hgt : gt (of.set b (K : Int)) (b : Int) = (K : Int) := by
          rw [gt_nat, getD_set (by omega), if_pos rfl]
        rw [hc, Option.bind_some, bif_false rfl, gd_pos (by omega), gd_pos (by omega), hy, gd_pos (by omega), gd_pos (by omega), gd_pos (by omega), Int.toNat_natCast, hpl, gd_pos (by rw [List.length_set]; omega), hgt, w64_nat (x := (K : Int) + 1) (k := K + 1) (by simp) (by omega), rsize_ok e1 e2]
        simp only [Option.bind_some]
        have ek : ((K + 1 : Nat) : Int) = (K : Int) + 1 := by omega
        rw [ek, g3']
        simp only [Option.bind_some]
        have hpf : (⟨gt (trp l) (b : Int), (b : Int), [], []⟩ : Plan) = skel ((sheets l).getD K default) := by
          unfold skel
          rw [e4, e5, tx_gt]
        rw [hpf]
        exact r19_l0 hy fuel (K + 1) (b + 1) _ _ _ (by omega) (by omega) (dst_step hm hl hD hK hT e1 e2 e3 e6 (by have := g1; simpa [gr] using this) (by have := g2; simpa [gr] using this))
      · have hno : ∀ m, m < (sheets l).length → tpo l m ≠ (i : Int) := by
          intro m hmm e
          rcases Nat.lt_or_ge m K with h5 | h5
          · have := hD.bef m h5
            omega
          · rcases Nat.eq_or_lt_of_le h5 with h6 | h6
            · subst h6
              exact hT ⟨hmm, e⟩
            · have := tpo_rise hm hl h6 hmm
              have := hD.aft K (Nat.le_refl _) (by omega)
              omega
        have hi0 : 0 < i := by
          rcases Nat.eq_zero_or_pos i with h | h
          · subst h
            obtain ⟨k, hk, -⟩ := nd_all hm hl hlt
            exact absurd (tpo_zero hm hl (by omega)) (hno 0 (by omega))
          · exact h
        rw [bif_true (decide_eq_true (by omega)), gd_pos (by omega), gt_nat, hD.t1 i hno, Option.bind_some, bif_true (c := (0 : Int) == 0) rfl]
        simp only [Option.bind_some]
        exact r19_l0 hy fuel K (i + 1) _ _ _ (by omega) (by omega) (dst_skip hD hno)
    · rw [bif_false (decide_eq_false (by omega))]
      have hi' : i = (tri l).length := by omega
      subst hi'
      have hK : K = (sheets l).length := by
        rcases Nat.lt_or_ge K (sheets l).length with h5 | h5
        · obtain ⟨n, e1, e2⟩ := tpo_nat hm hl h5
          have := hD.aft K (Nat.le_refl _) h5
          omega
        · omega
      subst hK
      exact ⟨of, tops, plans, rfl, hD⟩
theorem dst_zero : Dst l 0 0 (List.replicate (tri l).length 0) (List.replicate (tri l).length 0) [] := by
  refine ⟨Nat.zero_le _, fun m h => by omega, fun m _ h => ?_, rfl, by simp, by simp, fun m h => by omega, fun u _ => ?_, fun m h => by omega, fun j h => by omega⟩
  · obtain ⟨n, e1, e2⟩ := tpo_nat hm hl h
    omega
  · rw [List.getD_eq_getElem?_getD, List.getElem?_replicate]
    split <;> rfl
end
end Go.Lf
/- The document's sheets, second part: nodes; a node's parent. -/
set_option linter.unusedVariables false
set_option linter.unusedSimpArgs false
namespace Go.Lf
open Go
/-- Of a list that rises: what is below a bound, and the next one. -/
theorem filt_step {f : Int → Int} {k : Int} {x : Int} : ∀ {L : List Int}, L.Pairwise (fun a b => f a < f b) → x ∈ L → f x = k → L.filter (fun v => decide (f v < k + 1)) = L.filter (fun v => decide (f v < k)) ++ [x]
  | [], _, h, _ => by cases h
  | a :: L, hp, hx, hk => by
    obtain ⟨h1, h2⟩ := List.pairwise_cons.mp hp
    rcases List.mem_cons.mp hx with rfl | hx
    · have e1 : L.filter (fun v => decide (f v < k + 1)) = [] := List.filter_eq_nil_iff.mpr fun v hv => by have := h1 v hv; simp; omega
      have e2 : L.filter (fun v => decide (f v < k)) = [] := List.filter_eq_nil_iff.mpr fun v hv => by have := h1 v hv; simp; omega
      rw [List.filter_cons_of_pos (by simp; omega), List.filter_cons_of_neg (by simp; omega), e1, e2]
      rfl
    · have := h1 x hx
      rw [List.filter_cons_of_pos (by simp; omega), List.filter_cons_of_pos (by simp; omega), filt_step h2 hx hk]
      rfl
theorem filt_same {f : Int → Int} {k : Int} {L : List Int} (h : ∀ v ∈ L, f v ≠ k) : L.filter (fun v => decide (f v < k + 1)) = L.filter (fun v => decide (f v < k)) :=
  List.filter_congr fun v hv => by
    have := h v hv
    rw [decide_eq_decide]
    omega
theorem filt_all {f : Int → Int} {k : Int} {L : List Int} (h : ∀ v ∈ L, f v < k) : L.filter (fun v => decide (f v < k)) = L := List.filter_eq_self.mpr fun v hv => by simpa using h v hv
theorem filt_none {f : Int → Int} {k : Int} {L : List Int} (h : ∀ v ∈ L, k ≤ f v) : L.filter (fun v => decide (f v < k)) = [] := List.filter_eq_nil_iff.mpr fun v hv => by have := h v hv; simp; omega
theorem filt_len {f : Int → Int} {k : Int} {L : List Int} : (L.filter (fun v => decide (f v < k))).length ≤ L.length := List.length_filter_le _ _
def nst (i : Nat) (p : Plan) : Plan := ⟨p.prefix_, p.top_, p.nodes_.filter (fun v => decide (id v < (i : Int))), []⟩
theorem gt_mapP {g : Plan → Plan} {S : List Plan} {k : Nat} (h : k < S.length) : gt (S.map g) (k : Int) = g (S.getD k default) := by
  rw [gt_nat, List.getD_eq_getElem?_getD, List.getElem?_map, List.getElem?_eq_getElem h, List.getD_eq_getElem?_getD, List.getElem?_eq_getElem h]
  rfl
/-- One element of a list is turned, as a map over all turns it. -/
theorem map_turn {g g' : Plan → Plan} {S : List Plan} {k : Nat} {x : Plan} (h : k < S.length) (hx : x = g' (S.getD k default)) (ho : ∀ j, j < S.length → j ≠ k → g (S.getD j default) = g' (S.getD j default)) : (S.map g).set k x = S.map g' := by
  refine List.ext_getElem? fun j => ?_
  rw [List.getElem?_set]
  by_cases hj : k = j
  · subst hj
    rw [if_pos rfl, if_pos (by rw [List.length_map]; exact h), List.getElem?_map, List.getElem?_eq_getElem h, hx, List.getD_eq_getElem?_getD, List.getElem?_eq_getElem h]
    rfl
  · rw [if_neg hj, List.getElem?_map, List.getElem?_map]
    rcases Nat.lt_or_ge j S.length with hl | hl
    · have := ho j hl (fun e => hj e.symm)
      rw [List.getD_eq_getElem?_getD, List.getElem?_eq_getElem hl, Option.getD_some] at this
      rw [List.getElem?_eq_getElem hl, Option.map_some, Option.map_some, this]
    · rw [List.getElem?_eq_none hl]
      rfl
section
variable {l : List Pair} (hm : MayP l) (hl : l.length < 10000)
include hm hl
theorem r19_l1 {of : List Int} (hof : of.length = (tri l).length) (hov : ∀ m, m < (sheets l).length → ∀ u : Nat, (u : Int) ∈ Nd (sheets l) m → of.getD u default = (m : Int)) : ∀ (fuel i : Nat), (tri l).length - i < fuel → i ≤ (tri l).length →
    ref19_Of.l1 (tri l) of fuel ((sheets l).map (nst i), (i : Int)) = some ((sheets l).map (nst (tri l).length))
  | 0, i, h, _ => by omega
  | fuel + 1, i, h, hi => by
    obtain ⟨s1, s2⟩ := sheets_len hm hl
    rw [ref19_Of.l1]
    rcases Nat.lt_or_ge i (tri l).length with hlt | hge
    · obtain ⟨k, hk, hik⟩ := nd_all hm hl hlt
      have ho : gt of (i : Int) = (k : Int) := by rw [gt_nat]; exact hov k hk i hik
      have hlen := nd_len hm hl hk
      have hnl : (nst i ((sheets l).getD k default)).nodes_.length ≤ (Nd (sheets l) k).length := filt_len
      rw [bif_true (decide_eq_true (by omega)), gd_pos (by omega), gd_pos (by omega), ho, gd_pos (by rw [List.length_map]; omega), gt_mapP hk, gd_pos (by omega), gd_pos (by rw [List.length_map]; omega), w64_nat (x := (i : Int) + 1) (k := i + 1) (by simp) (by omega), Int.toNat_natCast]
      have hrise : (Nd (sheets l) k).Pairwise (fun a b => id a < id b) := nd_rise hm hl hk
      have e : ((sheets l).map (nst i)).set k { nst i ((sheets l).getD k default) with nodes_ := (nst i ((sheets l).getD k default)).nodes_ ++ [(i : Int)] } = (sheets l).map (nst (i + 1)) := by
        refine map_turn hk ?_ fun j hj hne => ?_
        · unfold nst
          have := filt_step (f := id) (k := (i : Int)) hrise hik rfl
          unfold Nd at this
          rw [show (((i + 1 : Nat) : Int)) = (i : Int) + 1 by omega, this]
        · unfold nst
          have : ∀ v ∈ ((sheets l).getD j default).nodes_, id v ≠ (i : Int) := by
            intro v hv hvi
            have hv' : (i : Int) ∈ Nd (sheets l) j := by
              have : v = (i : Int) := hvi
              rw [← this]
              exact hv
            rcases Nat.lt_or_gt_of_ne hne with h | h
            · exact nd_dis hm hl hk h hik hv'
            · exact nd_dis hm hl hj h hv' hik
          rw [show (((i + 1 : Nat) : Int)) = (i : Int) + 1 by omega, filt_same this]
      rw [e]
      exact r19_l1 hof hov fuel (i + 1) (by omega) (by omega)
    · rw [bif_false (decide_eq_false (by omega))]
      have : i = (tri l).length := by omega
      rw [this]
end
/-- A child of a node. -/
def kd (a : List Node) (i c : Nat) : Int := vg (gt a (i : Int)).kids_ (c : Int)
structure Par1 (a : List Node) (b n : Nat) : Prop where
  k1 : ∀ i c, b ≤ i → i < b + n → c < 16 → kd a i c = 0 ∨ ∃ k : Nat, kd a i c = (k : Int) ∧ i < k ∧ k < b + n
  u : ∀ i c i' c', b ≤ i → i < b + n → c < 16 → b ≤ i' → i' < b + n → c' < 16 → kd a i c = kd a i' c' → kd a i c ≠ 0 → i = i' ∧ c = c'
theorem Ks.kid_ge : ∀ {ks : Ks} {b i : Nat}, ks.kid b i → b ≤ i ∧ i < b + ks.sz
  | .cons c t ks, b, i, h => by
    have hp := T.sz_pos t
    have hs : (Ks.cons c t ks).sz = t.sz + ks.sz := rfl
    rcases h with rfl | h
    · omega
    · have := Ks.kid_ge h
      omega
theorem Ks.at_inj : ∀ {ks : Ks} {b m : Nat} {v : V16}, 0 < b → ks.at b v m → ∀ c c', m ≤ c → c < 16 → m ≤ c' → c' < 16 → vg v (c : Int) = vg v (c' : Int) → vg v (c : Int) ≠ 0 → c = c'
  | .nil, b, m, v, hb, h, c, c', h1, h2, _, _, _, h0 => absurd (h c h1 h2) h0
  | .cons d t ks, b, m, v, hb, h, c, c', h1, h2, h3, h4, he, h0 => by
    obtain ⟨g1, g2, g3, g4, g5⟩ := h
    have hp := T.sz_pos t
    have far : ∀ c, d < c → c < 16 → vg v (c : Int) ≠ 0 → (b : Int) < vg v (c : Int) := fun c h5 h6 h7 => by
      rcases Ks.at_gt g5 c h5 h6 with h | h
      · exact absurd h h7
      · omega
    rcases Nat.lt_trichotomy c d with hc | hc | hc
    · exact absurd (g3 c h1 hc) h0
    · subst hc
      rcases Nat.lt_trichotomy c' c with hc' | hc' | hc'
      · exact absurd (by rw [he]; exact g3 c' h3 hc') h0
      · exact hc'.symm
      · have := far c' hc' h4 (by rw [← he]; exact h0)
        omega
    · rcases Nat.lt_trichotomy c' d with hc' | hc' | hc'
      · exact absurd (by rw [he]; exact g3 c' h3 hc') h0
      · subst hc'
        have := far c hc h2 h0
        omega
      · exact Ks.at_inj (by omega) g5 c c' (by omega) h2 (by omega) h4 he h0
structure Par2 (a : List Node) (ks : Ks) (b : Nat) : Prop where
  p : Par1 a b ks.sz
  h : ∀ i c x : Nat, b ≤ i → i < b + ks.sz → c < 16 → kd a i c = (x : Int) → 0 < x → ¬ ks.kid b x
  e : ∀ x : Nat, b ≤ x → x < b + ks.sz → ks.kid b x ∨ ∃ i c, b ≤ i ∧ i < b + ks.sz ∧ c < 16 ∧ kd a i c = (x : Int)
mutual
theorem T.par {a : List Node} : ∀ (t : T) (b : Nat), Lies a b t → t.ok → Par1 a b t.sz ∧ ∀ x : Nat, b < x → x < b + t.sz → ∃ i c : Nat, b ≤ i ∧ i < b + t.sz ∧ c < 16 ∧ kd a i c = (x : Int)
  | .node l ks, b, hl, ho => by
    have hs : (T.node l ks).sz = ks.sz + 1 := rfl
    have hP := Ks.par ks (b + 1) (by omega) hl.kids ho.2.2
    have hat : ks.at (b + 1) (gt a (b : Int)).kids_ 0 := by rw [hl.get]; exact Ks.at_vec0 ho.2.1
    have hkb : ∀ c, c < 16 → kd a b c = 0 ∨ ∃ k : Nat, kd a b c = (k : Int) ∧ ks.kid (b + 1) k := fun c hc => by
      rcases Ks.at_kid hat c (Nat.zero_le _) hc with h | ⟨k, h, h'⟩
      · exact .inl h
      · exact .inr ⟨k, h, h'⟩
    refine ⟨⟨fun i c h1 h2 h3 => ?_, fun i c i' c' h1 h2 h3 h4 h5 h6 he h0 => ?_⟩, fun x h1 h2 => ?_⟩
    · rcases Nat.eq_or_lt_of_le h1 with rfl | h1
      · rcases hkb c h3 with h | ⟨k, h, h'⟩
        · exact .inl h
        · have := Ks.kid_ge h'
          exact .inr ⟨k, h, by omega, by omega⟩
      · rcases hP.p.k1 i c h1 (by omega) h3 with h | ⟨k, h, h', h''⟩
        · exact .inl h
        · exact .inr ⟨k, h, h', by omega⟩
    · rcases Nat.eq_or_lt_of_le h1 with rfl | h1
      · rcases Nat.eq_or_lt_of_le h4 with rfl | h4
        · exact ⟨rfl, Ks.at_inj (by omega) hat c c' (Nat.zero_le _) h3 (Nat.zero_le _) h6 he h0⟩
        · rcases hkb c h3 with h | ⟨k, h, h'⟩
          · exact absurd h h0
          · have := Ks.kid_ge h'
            exact absurd h' (hP.h i' c' k h4 (by omega) h6 (by rw [← he]; exact h) (by omega))
      · rcases Nat.eq_or_lt_of_le h4 with rfl | h4
        · rcases hkb c' h6 with h | ⟨k, h, h'⟩
          · exact absurd (by rw [he]; exact h) h0
          · have := Ks.kid_ge h'
            exact absurd h' (hP.h i c k h1 (by omega) h3 (by rw [he]; exact h) (by omega))
        · exact hP.p.u i c i' c' h1 (by omega) h3 h4 (by omega) h6 he h0
    · rcases hP.e x h1 (by omega) with h | ⟨i, c, h3, h4, h5, h6⟩
      · obtain ⟨c, h3, h4⟩ := Ks.kid_at h hat
        exact ⟨b, c, Nat.le_refl _, by omega, h3, h4⟩
      · exact ⟨i, c, by omega, by omega, h5, h6⟩
theorem Ks.par {a : List Node} : ∀ (ks : Ks) (b : Nat), 0 < b → ks.all (LL a) b → ks.ok → Par2 a ks b
  | .nil, b, _, _, _ => by
    have hs : Ks.nil.sz = 0 := rfl
    refine ⟨⟨fun i c h1 h2 => by omega, fun i c i' c' h1 h2 => by omega⟩, fun i c x h1 h2 => by omega, fun x h1 h2 => by omega⟩
  | .cons d t ks, b, hb, hl, ho => by
    have hs : (Ks.cons d t ks).sz = t.sz + ks.sz := rfl
    have hp := T.sz_pos t
    obtain ⟨⟨a1, a2⟩, a3⟩ := T.par t b hl.1 ho.1
    obtain ⟨⟨b1, b2⟩, b3, b4⟩ := Ks.par ks (b + t.sz) (by omega) hl.2 ho.2
    have hK : ∀ i c, b ≤ i → i < b + (t.sz + ks.sz) → c < 16 → kd a i c = 0 ∨ ∃ k : Nat, kd a i c = (k : Int) ∧ i < k ∧ (i < b + t.sz → k < b + t.sz) ∧ k < b + (t.sz + ks.sz) := fun i c h1 h2 h3 => by
      rcases Nat.lt_or_ge i (b + t.sz) with h | h
      · rcases a1 i c h1 h h3 with h | ⟨k, g1, g2, g3⟩
        · exact .inl h
        · exact .inr ⟨k, g1, g2, fun _ => g3, by omega⟩
      · rcases b1 i c h (by omega) h3 with h | ⟨k, g1, g2, g3⟩
        · exact .inl h
        · exact .inr ⟨k, g1, g2, fun _ => by omega, by omega⟩
    refine ⟨⟨fun i c h1 h2 h3 => ?_, fun i c i' c' h1 h2 h3 h4 h5 h6 he h0 => ?_⟩, fun i c x h1 h2 h3 h4 h5 h6 => ?_, fun x h1 h2 => ?_⟩
    · rcases hK i c h1 (by omega) h3 with h | ⟨k, g1, g2, g3, g4⟩
      · exact .inl h
      · exact .inr ⟨k, g1, g2, by omega⟩
    · rcases hK i c h1 (by omega) h3 with h | ⟨k, g1, g2, g3, g4⟩
      · exact absurd h h0
      rcases hK i' c' h4 (by omega) h6 with h | ⟨k', g1', g2', g3', g4'⟩
      · exact absurd (by rw [he]; exact h) h0
      have hkk : k = k' := by omega
      subst hkk
      rcases Nat.lt_or_ge i (b + t.sz) with h | h
      · have := g3 h
        exact a2 i c i' c' h1 h h3 h4 (by omega) h6 he h0
      · rcases Nat.lt_or_ge i' (b + t.sz) with h' | h'
        · have := g3' h'
          omega
        · exact b2 i c i' c' h (by omega) h3 h' (by omega) h6 he h0
    · rcases hK i c h1 (by omega) h3 with h | ⟨k, g1, g2, g3, g4⟩
      · omega
      have hxk : x = k := by omega
      subst hxk
      rcases h6 with rfl | h6
      · omega
      · have hge := Ks.kid_ge h6
        rcases Nat.lt_or_ge i (b + t.sz) with h | h
        · have := g3 h
          omega
        · exact b3 i c x h (by omega) h3 h4 h5 h6
    · rcases Nat.lt_or_ge x (b + t.sz) with h | h
      · rcases Nat.eq_or_lt_of_le h1 with rfl | h1
        · exact .inl (.inl rfl)
        · obtain ⟨i, c, g1, g2, g3, g4⟩ := a3 x h1 h
          exact .inr ⟨i, c, g1, by omega, g3, g4⟩
      · rcases b4 x h (by omega) with h | ⟨i, c, g1, g2, g3, g4⟩
        · exact .inl (.inr h)
        · exact .inr ⟨i, c, by omega, by omega, g3, g4⟩
end
end Go.Lf
/- The document's sheets, third part: the numbers of the sheets that are led to. -/
set_option linter.unusedVariables false
set_option linter.unusedSimpArgs false
namespace Go.Lf
open Go
/-- The Top of the sheet of a number, as a number. -/
def tpi (l : List Pair) (v : Int) : Int := tpo l v.toNat
def kst (l : List Pair) (i : Nat) (p : Plan) : Plan := ⟨p.prefix_, p.top_, p.nodes_, p.kids_.filter (fun v => decide (tpi l v < (i : Int)))⟩
theorem r19_l4n {l : List Pair} {of : List Int} {k i : Nat} {P : List Plan} (hi : i < (tri l).length) : ∀ (fuel c : Nat), 16 - c < fuel → c ≤ 16 → (∀ c', c ≤ c' → c' < 16 → kd (tri l) i c' ≠ (k : Int)) → ref19_Of.l4 (tri l) of (k : Int) (i : Int) fuel (P, (c : Int)) = some P
  | 0, c, h, _, _ => by omega
  | fuel + 1, c, h, hc, hn => by
    rw [ref19_Of.l4]
    rcases Nat.lt_or_ge c 16 with h16 | h16
    · have h1 : vg (gt (tri l) (i : Int)).kids_ (c : Int) ≠ (k : Int) := hn c (Nat.le_refl _) h16
      rw [bif_true (decide_eq_true (by omega)), gd_pos (by omega), gd_pos (by omega), bif_false (by simpa using h1), Option.bind_some, w64_nat (x := (c : Int) + 1) (k := c + 1) (by simp) (by omega)]
      exact r19_l4n hi fuel (c + 1) (by omega) (by omega) (fun c' h2 h3 => hn c' (by omega) h3)
    · rw [bif_false (decide_eq_false (by omega))]
theorem r19_l3no {l : List Pair} {of tops : List Int} {k i : Nat} {P : List Plan} {fuel : Nat} (hf : 0 < fuel) (hk : k < tops.length) (h : ¬ 0 < gt tops (k : Int)) : ref19_Of.l3 (tri l) of tops (k : Int) fuel (P, (i : Int)) = some P := by
  obtain ⟨f, rfl⟩ : ∃ f, fuel = f + 1 := ⟨fuel - 1, by omega⟩
  rw [ref19_Of.l3]
  by_cases c1 : i < k
  · rw [bif_true (decide_eq_true (by omega)), gd_pos (by omega), decide_eq_false h, Option.bind_some, bif_false rfl]
  · rw [bif_false (decide_eq_false (by omega)), Option.bind_some, bif_false rfl]
theorem r19_l4y {l : List Pair} {of : List Int} {k i j m c0 : Nat} {P : List Plan} (hi : i < (tri l).length) (hk : k < (tri l).length) (hof : of.length = (tri l).length) (ho : gt of (i : Int) = (j : Int)) (hok : gt of (k : Int) = (m : Int)) (hj : j < P.length) (hP : (gt P (j : Int)).kids_.length < 1000000) (hc0 : c0 < 16) (h0 : kd (tri l) i c0 = (k : Int)) (hn : ∀ c', c' < 16 → kd (tri l) i c' = (k : Int) → c' = c0) : ∀ (fuel c : Nat), 16 - c < fuel → c ≤ c0 →
    ref19_Of.l4 (tri l) of (k : Int) (i : Int) fuel (P, (c : Int)) = some (P.set j { gt P (j : Int) with kids_ := (gt P (j : Int)).kids_ ++ [(m : Int)] })
  | 0, c, h, _ => by omega
  | fuel + 1, c, h, hc => by
    rw [ref19_Of.l4]
    rw [bif_true (decide_eq_true (by omega)), gd_pos (by omega), gd_pos (by omega), w64_nat (x := (c : Int) + 1) (k := c + 1) (by simp) (by omega)]
    by_cases hcc : c = c0
    · subst hcc
      have h1 : vg (gt (tri l) (i : Int)).kids_ (c : Int) = (k : Int) := h0
      rw [bif_true (by simpa using h1), gd_pos (by omega), gd_pos (by omega), ho, gd_pos (by omega), gd_pos (by omega), gd_pos (by omega), gd_pos (by omega), Option.bind_some, Int.toNat_natCast, hok]
      exact r19_l4n hi fuel (c + 1) (by omega) (by omega) (fun c' h2 h3 h4 => by have := hn c' h3 h4; omega)
    · have h1 : vg (gt (tri l) (i : Int)).kids_ (c : Int) ≠ (k : Int) := fun h => hcc (hn c (by omega) h)
      rw [bif_false (by simpa using h1), Option.bind_some]
      exact r19_l4y hi hk hof ho hok hj hP hc0 h0 hn fuel (c + 1) (by omega) (by omega)
section
variable {l : List Pair} (hm : MayP l) (hl : l.length < 10000)
include hm hl
theorem tri_par (h0 : 0 < l.length) : Par1 (tri l) 0 (tri l).length ∧ ∀ x : Nat, 0 < x → x < (tri l).length → ∃ i c : Nat, i < (tri l).length ∧ c < 16 ∧ kd (tri l) i c = (x : Int) := by
  obtain ⟨h1, h2⟩ := T.par (tre l) 0 (tre_lies h0) (tre_ok hm (by omega) h0)
  have htl := tri_len (l := l) h0
  rw [Nat.zero_add, ← htl] at h2
  rw [← htl] at h1
  refine ⟨h1, fun x g1 g2 => ?_⟩
  obtain ⟨i, c, -, e1, e2, e3⟩ := h2 x g1 g2
  exact ⟨i, c, e1, e2, e3⟩
theorem tpo_inj {j k : Nat} (hj : j < (sheets l).length) (hk : k < (sheets l).length) (h : tpo l j = tpo l k) : j = k := by
  rcases Nat.lt_trichotomy j k with h1 | h1 | h1
  · have := tpo_rise hm hl h1 hk
    omega
  · exact h1
  · have := tpo_rise hm hl h1 hj
    omega
theorem nd_top {k : Nat} (hk : k < (sheets l).length) {v : Int} (hv : v ∈ Nd (sheets l) k) : tpo l k ≤ v := by
  obtain ⟨b, t, e1, e2, e3, e4, e5, e6⟩ := sheets_ent hm hl hk
  obtain ⟨N, h1, h2, h3⟩ := gr_nodes (b := b) e2
  have hv' : v ∈ ((sheets l).getD k default).nodes_ := hv
  rw [e3, h1] at hv'
  have : tpo l k = (b : Int) := e4
  rw [this]
  simp only [ix, List.map_cons, List.mem_cons] at hv'
  rcases hv' with h | h
  · omega
  · obtain ⟨x, hx, rfl⟩ := List.mem_map.mp h
    have := (h2.2 x hx).1
    omega
/-- The parent of a Top stands in the sheet that leads to it. -/
theorem top_par {m : Nat} (hm0 : 0 < m) (hk : m < (sheets l).length) : ∃ k i c j : Nat, tpo l m = (k : Int) ∧ 0 < k ∧ k < (tri l).length ∧ i < k ∧ c < 16 ∧ kd (tri l) i c = (k : Int) ∧ j < m ∧ (i : Int) ∈ Nd (sheets l) j ∧ (m : Int) ∈ Kd (sheets l) j ∧
    ∀ i' c' : Nat, i' < (tri l).length → c' < 16 → kd (tri l) i' c' = (k : Int) → i' = i ∧ c' = c := by
  obtain ⟨k, e1, e2⟩ := tpo_nat hm hl hk
  have h0 : 0 < l.length := by
    rcases Nat.eq_zero_or_pos l.length with h | h
    · have : l = [] := List.length_eq_zero_iff.mp h
      subst this
      simp [tri] at e2
    · exact h
  have hk0 : 0 < k := by
    have := tpo_rise hm hl hm0 hk
    have := tpo_zero hm hl (by omega)
    omega
  obtain ⟨⟨p1, p2⟩, p3⟩ := tri_par hm hl h0
  obtain ⟨i, c, f1, f2, f3⟩ := p3 k hk0 e2
  have hik : i < k := by
    rcases p1 i c (Nat.zero_le _) (by omega) f2 with h | ⟨k', h, h', -⟩
    · omega
    · omega
  obtain ⟨j, hj, hij⟩ := nd_all hm hl f1
  have huniq : ∀ i' c' : Nat, i' < (tri l).length → c' < 16 → kd (tri l) i' c' = (k : Int) → i' = i ∧ c' = c := fun i' c' h1 h2 h3 =>
    p2 i' c' i c (Nat.zero_le _) (by omega) h2 (Nat.zero_le _) (by omega) f2 (by rw [h3, f3]) (by rw [h3]; omega)
  have hsk := sheet_kid hm hl hj (i := (i : Int)) hij f2
  have f3' : vg (gt (tri l) (i : Int)).kids_ (c : Int) = (k : Int) := f3
  rw [f3'] at hsk
  have hin := tpo_in hm hl hk
  rw [e1] at hin
  rcases hsk with h | h | ⟨m', g1, g2, g3⟩
  · omega
  · exfalso
    have hjm : j = m := by
      rcases Nat.lt_trichotomy j m with h5 | h5 | h5
      · exact absurd h (nd_dis hm hl hk h5 hin)
      · exact h5
      · exact absurd hin (nd_dis hm hl hj h5 h)
    subst hjm
    have := nd_top hm hl hk hij
    omega
  · have : m' = m := tpo_inj hm hl g2 hk (by rw [e1]; exact g3)
    subst this
    obtain ⟨n, q1, q2, q3⟩ := kd_rng hm hl hj g1
    exact ⟨k, i, c, j, e1, hk0, e2, hik, f2, f3, by omega, hij, g1, huniq⟩
theorem r19_l3b {of tops : List Int} {k i0 : Nat} {P : List Plan} (hk : k < (tri l).length) (htl : tops.length = (tri l).length) (ht : 0 < gt tops (k : Int)) (hu : ∀ i' c' : Nat, i' < (tri l).length → c' < 16 → kd (tri l) i' c' = (k : Int) → i' = i0) : ∀ (fuel i : Nat), k - i < fuel → i0 < i → i ≤ k → ref19_Of.l3 (tri l) of tops (k : Int) fuel (P, (i : Int)) = some P
  | 0, i, h, _, _ => by omega
  | fuel + 1, i, h, h0, hik => by
    obtain ⟨s1, s2⟩ := sheets_len hm hl
    rw [ref19_Of.l3]
    rcases Nat.lt_or_ge i k with hlt | hge
    · have h4 := r19_l4n (l := l) (of := of) (k := k) (i := i) (P := P) (by omega) BIG 0 (by have := BIG_ge; omega) (by omega) (fun c' _ h3 h4 => by have := hu i c' (by omega) h3 h4; omega)
      rw [show ((0 : Nat) : Int) = 0 from rfl] at h4
      rw [bif_true (decide_eq_true (by omega)), gd_pos (by omega), decide_eq_true ht, Option.bind_some, bif_true rfl, h4, Option.bind_some, w64_nat (x := (i : Int) + 1) (k := i + 1) (by simp) (by omega)]
      exact r19_l3b hk htl ht hu fuel (i + 1) (by omega) (by omega) (by omega)
    · rw [bif_false (decide_eq_false (by omega)), Option.bind_some, bif_false rfl]
theorem r19_l3y {of tops : List Int} {k i0 c0 j m : Nat} {P : List Plan} (hk : k < (tri l).length) (hof : of.length = (tri l).length) (htl : tops.length = (tri l).length) (ht : 0 < gt tops (k : Int)) (hi0 : i0 < k) (ho : gt of (i0 : Int) = (j : Int)) (hok : gt of (k : Int) = (m : Int)) (hj : j < P.length) (hP : (gt P (j : Int)).kids_.length < 1000000) (hc0 : c0 < 16) (h0 : kd (tri l) i0 c0 = (k : Int))
    (hu : ∀ i' c' : Nat, i' < (tri l).length → c' < 16 → kd (tri l) i' c' = (k : Int) → i' = i0 ∧ c' = c0) : ∀ (fuel i : Nat), k - i < fuel → i ≤ i0 →
    ref19_Of.l3 (tri l) of tops (k : Int) fuel (P, (i : Int)) = some (P.set j { gt P (j : Int) with kids_ := (gt P (j : Int)).kids_ ++ [(m : Int)] })
  | 0, i, h, _ => by omega
  | fuel + 1, i, h, hi => by
    obtain ⟨s1, s2⟩ := sheets_len hm hl
    rw [ref19_Of.l3, bif_true (decide_eq_true (by omega)), gd_pos (by omega), decide_eq_true ht, Option.bind_some, bif_true rfl, w64_nat (x := (i : Int) + 1) (k := i + 1) (by simp) (by omega)]
    by_cases hii : i = i0
    · subst hii
      have h4 := r19_l4y (l := l) (of := of) (P := P) (i := i) (by omega) hk hof ho hok hj hP hc0 h0 (fun c' h1 h2 => (hu i c' (by omega) h1 h2).2) BIG 0 (by have := BIG_ge; omega) (Nat.zero_le _)
      rw [show ((0 : Nat) : Int) = 0 from rfl] at h4
      rw [h4, Option.bind_some]
      exact r19_l3b hm hl hk htl ht (fun i' c' h1 h2 h3 => (hu i' c' h1 h2 h3).1) fuel (i + 1) (by omega) (by omega) (by omega)
    · have h4 := r19_l4n (l := l) (of := of) (k := k) (i := i) (P := P) (by omega) BIG 0 (by have := BIG_ge; omega) (by omega) (fun c' _ h3 h4 => by have := (hu i c' (by omega) h3 h4).1; omega)
      rw [show ((0 : Nat) : Int) = 0 from rfl] at h4
      rw [h4, Option.bind_some]
      exact r19_l3y hk hof htl ht hi0 ho hok hj hP hc0 h0 hu fuel (i + 1) (by omega) (by omega)
theorem kd_len {k : Nat} (hk : k < (sheets l).length) : (Kd (sheets l) k).length < 1000000 := by
  obtain ⟨b, t, e1, e2, e3, e4, e5, e6⟩ := sheets_ent hm hl hk
  obtain ⟨s1, s2⟩ := sheets_len hm hl
  obtain ⟨k1, -⟩ := KOK.get e6
  have h1 := len_le_szs (gr t b).tops
  have h2 := gr_tops (b := b) e2
  have := e1.lt
  unfold Kd
  omega
theorem r19_l2 {of tops : List Int} {plans : List Plan} (hD : Dst l (sheets l).length (tri l).length of tops plans) : ∀ (fuel k : Nat), (tri l).length - k < fuel → 0 < k → k ≤ (tri l).length →
    ref19_Of.l2 (tri l) of tops fuel ((sheets l).map (kst l k), (k : Int)) = some (sheets l)
  | 0, k, h, _, _ => by omega
  | fuel + 1, k, h, hk0, hk => by
    obtain ⟨s1, s2⟩ := sheets_len hm hl
    have hof := hD.ofl
    have htl := hD.tol
    rw [ref19_Of.l2]
    rcases Nat.lt_or_ge k (tri l).length with hlt | hge
    · rw [bif_true (decide_eq_true (by omega)), w64_nat (x := (k : Int) + 1) (k := k + 1) (by simp) (by omega)]
      suffices hs : ref19_Of.l3 (tri l) of tops (k : Int) BIG ((sheets l).map (kst l k), 0) = some ((sheets l).map (kst l (k + 1))) by
        rw [hs, Option.bind_some]
        exact r19_l2 hD fuel (k + 1) (by omega) (by omega) (by omega)
      have ek : ((k + 1 : Nat) : Int) = (k : Int) + 1 := by omega
      by_cases hT : ∃ m, m < (sheets l).length ∧ tpo l m = (k : Int)
      · obtain ⟨m, h1, h2⟩ := hT
        have hm0 : 0 < m := by
          rcases Nat.eq_zero_or_pos m with h | h
          · subst h
            have := tpo_zero hm hl h1
            omega
          · exact h
        obtain ⟨k', i, c, j, g1, g2, g3, g4, g5, g6, g7, g8, g9, g10⟩ := top_par hm hl hm0 h1
        have hkk : k' = k := by omega
        subst hkk
        have hjl : j < (sheets l).length := by omega
        have ht : 0 < gt tops (k' : Int) := by
          have := hD.t2 m h1
          rw [h2, Int.toNat_natCast] at this
          rw [gt_nat, this]
          omega
        have hin := tpo_in hm hl h1
        rw [h2] at hin
        have hkl := kd_len hm hl hjl
        have hgj : gt ((sheets l).map (kst l k')) (j : Int) = kst l k' ((sheets l).getD j default) := gt_mapP hjl
        have hfl : (kst l k' ((sheets l).getD j default)).kids_.length ≤ (Kd (sheets l) j).length := filt_len
        have h3 := r19_l3y hm hl (of := of) (tops := tops) (P := (sheets l).map (kst l k')) g3 hof htl ht g4 (by rw [gt_nat]; exact hD.ofv j hjl i g8) (by rw [gt_nat]; exact hD.ofv m h1 k' hin) (by rw [List.length_map]; exact hjl) (by rw [hgj]; omega) g5 g6 g10 BIG 0 (by have := BIG_ge; omega) (Nat.zero_le _)
        rw [show ((0 : Nat) : Int) = 0 from rfl] at h3
        rw [h3, hgj]
        congr 1
        have hrise : (Kd (sheets l) j).Pairwise (fun a b => tpi l a < tpi l b) := by
          have h5 := (sheets_prt hm hl).krise _ (getD_mem (d := default) hjl)
          refine h5.imp_of_mem fun {a b} ha hb hab => ?_
          obtain ⟨n1, q1, q2, q3⟩ := kd_rng hm hl hjl ha
          obtain ⟨n2, r1, r2, r3⟩ := kd_rng hm hl hjl hb
          subst q1 r1
          exact tpo_rise hm hl (by simp; omega) (by simpa using r3)
        refine map_turn hjl ?_ fun q hq hne => ?_
        · unfold kst
          have := filt_step (f := tpi l) (k := (k' : Int)) hrise g9 (by unfold tpi; rw [Int.toNat_natCast]; exact h2)
          unfold Kd at this
          rw [ek, this]
        · unfold kst
          have : ∀ v ∈ ((sheets l).getD q default).kids_, tpi l v ≠ (k' : Int) := by
            intro v hv hvk
            obtain ⟨n1, q1, q2, q3⟩ := kd_rng hm hl hq hv
            subst q1
            have : n1 = m := tpo_inj hm hl q3 h1 (by rw [h2]; simpa [tpi] using hvk)
            subst this
            rcases Nat.lt_or_gt_of_ne hne with h | h
            · exact kd_dis hm hl hjl h g9 hv
            · exact kd_dis hm hl hq h hv g9
          rw [ek, filt_same this]
      · have hno : ∀ m, m < (sheets l).length → tpo l m ≠ (k : Int) := fun m h1 h2 => hT ⟨m, h1, h2⟩
        have h3 := r19_l3no (l := l) (of := of) (tops := tops) (k := k) (i := 0) (P := (sheets l).map (kst l k)) (fuel := BIG) (by have := BIG_ge; omega) (by omega) (by rw [gt_nat, hD.t1 k hno]; decide)
        rw [show ((0 : Nat) : Int) = 0 from rfl] at h3
        rw [h3]
        congr 1
        refine List.map_congr_left fun p hp => ?_
        obtain ⟨q, hq, rfl⟩ := mem_getD (d := default) hp
        unfold kst
        have : ∀ v ∈ ((sheets l).getD q default).kids_, tpi l v ≠ (k : Int) := by
          intro v hv hvk
          obtain ⟨n1, q1, q2, q3⟩ := kd_rng hm hl hq hv
          subst q1
          exact hno n1 q3 (by simpa [tpi] using hvk)
        rw [ek, filt_same this]
    · rw [bif_false (decide_eq_false (by omega))]
      have : k = (tri l).length := by omega
      subst this
      congr 1
      refine (List.map_congr_left (g := id) fun p hp => ?_).trans (List.map_id _)
      obtain ⟨q, hq, rfl⟩ := mem_getD (d := default) hp
      unfold kst
      rw [filt_all]
      · rfl
      · intro v hv
        obtain ⟨n1, q1, q2, q3⟩ := kd_rng hm hl hq hv
        subst q1
        obtain ⟨n2, r1, r2⟩ := tpo_nat hm hl q3
        unfold tpi
        rw [Int.toNat_natCast]
        omega
/-- The document's sheets of the trie of pairs are the program's. -/
theorem of19_ok : ref19_Of.f (tri l) = some ⟨sheets l, true⟩ := by
  obtain ⟨s1, s2⟩ := sheets_len hm hl
  unfold ref19_Of.f
  rw [rpairs_ok hm hl]
  simp only [Option.bind_some]
  rw [bif_false (c := !true) rfl, Build2_ok hm (by omega), Option.bind_some, gd_pos (by omega), gd_pos (by omega), Option.bind_some, Int.toNat_natCast]
  obtain ⟨of, tops, plans, h1, hD⟩ := r19_l0 hm hl (y := ⟨tri l, trp l, true⟩) rfl BIG 0 0 _ _ _ (by have := BIG_ge; omega) (Nat.zero_le _) (dst_zero hm hl)
  rw [show ((0 : Nat) : Int) = 0 from rfl] at h1
  rw [h1]
  simp only [Option.bind_some]
  have hp : plans = (sheets l).map (nst 0) := by
    rw [hD.pls, List.take_length]
    refine List.map_congr_left fun p hp => ?_
    obtain ⟨q, hq, rfl⟩ := mem_getD (d := default) hp
    unfold skel nst
    rw [filt_none]
    intro v hv
    obtain ⟨n, e1, e2⟩ := nd_rng hm hl hq hv
    simp
    omega
  have h2 := r19_l1 hm hl hD.ofl hD.ofv BIG 0 (by have := BIG_ge; omega) (Nat.zero_le _)
  rw [show ((0 : Nat) : Int) = 0 from rfl] at h2
  rw [hp, h2]
  simp only [Option.bind_some]
  have hq : (sheets l).map (nst (tri l).length) = (sheets l).map (kst l 1) := by
    refine List.map_congr_left fun p hp => ?_
    obtain ⟨q, hq, rfl⟩ := mem_getD (d := default) hp
    unfold nst kst
    rw [filt_all, filt_none]
    · intro v hv
      obtain ⟨n1, q1, q2, q3⟩ := kd_rng hm hl hq hv
      subst q1
      have := tpo_rise hm hl (show 0 < n1 by omega) q3
      have := tpo_zero hm hl (by omega)
      unfold tpi
      rw [Int.toNat_natCast]
      omega
    · intro v hv
      obtain ⟨n, e1, e2⟩ := nd_rng hm hl hq hv
      simp
      omega
  rw [hq]
  by_cases he : (tri l).length = 0
  · obtain ⟨B, hB⟩ : ∃ B, BIG = B + 1 := ⟨BIG - 1, by have := BIG_ge; omega⟩
    have hs : sheets l = [] := List.length_eq_zero_iff.mp (by omega)
    rw [hs, hB, ref19_Of.l2, bif_false (decide_eq_false (by omega))]
    rfl
  · have h3 := r19_l2 hm hl hD BIG 1 (by have := BIG_ge; omega) (by omega) (by omega)
    rw [show ((1 : Nat) : Int) = 1 from rfl] at h3
    rw [h3]
    rfl
end
end Go.Lf
/- The bytes of any list of nodes, by the program and by the document. -/
set_option linter.unusedVariables false
set_option linter.unusedSimpArgs false
namespace Go.Lf
open Go
theorem nodup_le {α : Type} [DecidableEq α] : ∀ {x y : List α}, x.Nodup → (∀ a ∈ x, a ∈ y) → x.length ≤ y.length
  | [], y, _, _ => Nat.zero_le _
  | a :: x, y, h, hs => by
    obtain ⟨h1, h2⟩ := List.nodup_cons.mp h
    have hy : a ∈ y := hs a (List.mem_cons_self ..)
    have := nodup_le (x := x) (y := y.erase a) h2 (fun b hb => by
      have hne : b ≠ a := fun e => h1 (by rw [← e]; exact hb)
      exact (List.mem_erase_of_ne hne).mpr (hs b (List.mem_cons_of_mem _ hb)))
    have hl := List.length_erase_of_mem hy
    have hp := List.length_pos_of_mem hy
    simp only [List.length_cons]
    omega
/-- A node's bytes. -/
def zs (a : List Node) (v : Int) : Int := (ref19_size.f (gt a v)).getD 0
def zsum (a : List Node) (X : List Int) : Int := (X.map (zs a)).sum
/-- All nodes' sizes are told alike. -/
def Szd (a : List Node) : Prop := ∀ i : Nat, i < a.length → ref19_size.f (gt a (i : Int)) = some (zs a i) ∧ pack_size.f (gt a (i : Int)) = some (zs a i) ∧ 3 ≤ zs a i ∧ zs a i ≤ 69
def Ris (X : List Int) (n : Nat) : Prop := X.Pairwise (· < ·) ∧ ∀ v ∈ X, 0 ≤ v ∧ v < (n : Int)
instance (X : List Int) (n : Nat) : Decidable (Ris X n) := by unfold Ris; infer_instance
theorem ris_cons {x : Int} {X : List Int} {n : Nat} {last : Int} (hl : -1 ≤ last) : (last < x ∧ x < (n : Int) ∧ X.Pairwise (· < ·) ∧ ∀ v ∈ X, x < v ∧ v < (n : Int)) ↔ ((x :: X).Pairwise (· < ·) ∧ ∀ v ∈ x :: X, last < v ∧ v < (n : Int)) := by
  constructor
  · rintro ⟨h1, h2, h3, h4⟩
    refine ⟨List.pairwise_cons.mpr ⟨fun v hv => (h4 v hv).1, h3⟩, fun v hv => ?_⟩
    rcases List.mem_cons.mp hv with rfl | hv
    · exact ⟨h1, h2⟩
    · have := h4 v hv
      omega
  · rintro ⟨h1, h2⟩
    obtain ⟨h3, h4⟩ := List.pairwise_cons.mp h1
    exact ⟨(h2 x (List.mem_cons_self ..)).1, (h2 x (List.mem_cons_self ..)).2, h4, fun v hv => ⟨h3 v hv, (h2 v (List.mem_cons_of_mem _ hv)).2⟩⟩
/-- What is left of a list rises, behind a number. -/
def RisB (X : List Int) (n : Nat) (last : Int) : Prop := X.Pairwise (· < ·) ∧ ∀ v ∈ X, last < v ∧ v < (n : Int)
theorem risB_cons {x : Int} {X : List Int} {n : Nat} {last : Int} (hl : -1 ≤ last) : RisB (x :: X) n last ↔ last < x ∧ x < (n : Int) ∧ RisB X n x := (ris_cons hl).symm
theorem pb_l0 {a : List Node} {p : Plan} (hl : p.nodes_.length ≤ 300) : ∀ (fuel i : Nat) (last : Int), p.nodes_.length - i < fuel → -1 ≤ last → (RisB (p.nodes_.drop i) a.length last ∧ pack_Bytes.l0 a p fuel ((i : Int), last) = some (.inl ())) ∨ (¬ RisB (p.nodes_.drop i) a.length last ∧ pack_Bytes.l0 a p fuel ((i : Int), last) = some (.inr (0, false)))
  | 0, i, last, h, _ => by omega
  | fuel + 1, i, last, h, hla => by
    rw [pack_Bytes.l0]
    rcases Nat.lt_or_ge i p.nodes_.length with hi | hi
    · rw [bif_true (decide_eq_true (by omega)), gd_pos (by omega), gt_nat, drop_cons default hi, risB_cons hla, w64_nat (x := (i : Int) + 1) (k := i + 1) (by simp) (by omega)]
      generalize p.nodes_.getD i default = x
      by_cases c1 : x ≤ last
      · rw [bif_true (decide_eq_true c1), Option.bind_some, bif_true rfl]
        exact .inr ⟨fun h => by omega, rfl⟩
      · rw [bif_false (decide_eq_false c1), Option.bind_some]
        by_cases c2 : x ≥ (a.length : Int)
        · rw [bif_true (decide_eq_true c2)]
          exact .inr ⟨fun h => by omega, rfl⟩
        · rw [bif_false (decide_eq_false c2)]
          rcases pb_l0 (a := a) hl fuel (i + 1) x (by omega) (by omega) with ⟨h1, h2⟩ | ⟨h1, h2⟩
          · exact .inl ⟨⟨by omega, by omega, h1⟩, h2⟩
          · exact .inr ⟨fun h => h1 h.2.2, h2⟩
    · rw [bif_false (decide_eq_false (by omega)), List.drop_eq_nil_of_le hi]
      exact .inl ⟨⟨List.Pairwise.nil, fun v hv => by cases hv⟩, rfl⟩
theorem zsum_cons (a : List Node) (x : Int) (X : List Int) : zsum a (x :: X) = zs a x + zsum a X := rfl
theorem zsum_le {a : List Node} (hz : Szd a) : ∀ {X : List Int}, (∀ v ∈ X, 0 ≤ v ∧ v < (a.length : Int)) → 3 * (X.length : Int) ≤ zsum a X ∧ zsum a X ≤ 69 * (X.length : Int)
  | [], _ => by simp [zsum]
  | x :: X, h => by
    have h1 := zsum_le hz (fun v hv => h v (List.mem_cons_of_mem _ hv))
    obtain ⟨h2, h3⟩ := h x (List.mem_cons_self ..)
    obtain ⟨i, rfl⟩ : ∃ i : Nat, x = (i : Int) := ⟨x.toNat, by omega⟩
    obtain ⟨-, -, h4, h5⟩ := hz i (by omega)
    rw [zsum_cons]
    simp only [List.length_cons]
    omega
theorem pb_l1 {a : List Node} {p : Plan} (hz : Szd a) (hl : p.nodes_.length ≤ 300) (hb : ∀ v ∈ p.nodes_, 0 ≤ v ∧ v < (a.length : Int)) : ∀ (fuel i : Nat) (acc : Int), p.nodes_.length - i < fuel → 0 ≤ acc → acc ≤ 100 * (i : Int) →
    pack_Bytes.l1 a p fuel ((i : Int), acc) = some (acc + zsum a (p.nodes_.drop i) - 3 * (((p.nodes_.drop i).filter (fun v => decide (∃ y ∈ p.nodes_, isKid a v y))).length : Int))
  | 0, i, acc, h, _, _ => by omega
  | fuel + 1, i, acc, h, h1, h2 => by
    rw [pack_Bytes.l1]
    rcases Nat.lt_or_ge i p.nodes_.length with hi | hi
    · have hm : p.nodes_.getD i default ∈ p.nodes_ := getD_mem hi
      obtain ⟨b1, b2⟩ := hb _ hm
      obtain ⟨n, hn⟩ : ∃ n : Nat, p.nodes_.getD i default = (n : Int) := ⟨(p.nodes_.getD i default).toNat, by omega⟩
      obtain ⟨-, z1, z2, z3⟩ := hz n (by omega)
      rw [bif_true (decide_eq_true (by omega)), gd_pos (by omega), gt_nat, gd_pos ⟨b1, b2⟩, drop_cons default hi, hn, z1, Option.bind_some, w64_nat (x := (i : Int) + 1) (k := i + 1) (by simp) (by omega), zsum_cons]
      have h0 := cfunc_ok (a := a) (xs := p.nodes_) (v := (n : Int)) (by omega) hb
      rcases h0 with ⟨e, h3⟩ | ⟨e, h3⟩
      · rw [h3]
        simp only [Option.bind_some]
        rw [bif_true rfl]
        simp only [Option.bind_some]
        rw [w64_id (x := acc + zs a n) (by omega), w64_id (by omega), pb_l1 hz hl hb fuel (i + 1) _ (by omega) (by omega) (by omega), List.filter_cons_of_pos (by simpa using e)]
        simp only [List.length_cons]
        congr 1
        omega
      · rw [h3]
        simp only [Option.bind_some]
        rw [bif_false rfl]
        simp only [Option.bind_some]
        rw [w64_id (x := acc + zs a n) (by omega), pb_l1 hz hl hb fuel (i + 1) _ (by omega) (by omega) (by omega), List.filter_cons_of_neg (by simpa using e)]
        congr 1
        omega
    · rw [bif_false (decide_eq_false (by omega)), List.drop_eq_nil_of_le hi]
      simp [zsum]
end Go.Lf
/- The document's way to count a list's bytes; both ways are one. -/
set_option linter.unusedVariables false
set_option linter.unusedSimpArgs false
namespace Go.Lf
open Go
theorem getD_setB {X : List Bool} {v u : Nat} {x : Bool} (hv : v < X.length) : (X.set v x).getD u false = if u = v then x else X.getD u false := by
  rw [List.getD_eq_getElem?_getD, List.getD_eq_getElem?_getD, List.getElem?_set]
  split
  · rename_i h
    subst h
    simp [hv]
  · rename_i h
    rw [if_neg (fun e => h e.symm)]
/-- Which nodes stand in a list. -/
structure Inn (X : List Int) (n : Nat) (I : List Bool) : Prop where
  len : I.length = n
  at_ : ∀ u : Nat, u < n → I.getD u false = decide ((u : Int) ∈ X)
theorem prev_last {X : List Int} {i : Nat} {last : Int} (h : i = 0 ∧ last = -1 ∨ ∃ j, i = j + 1 ∧ last = X.getD j default) : True := trivial
theorem rb_l0 {a : List Node} {p : Plan} (hz : Szd a) (hl : p.nodes_.length ≤ 300) (ha : a.length ≤ 1000000) : ∀ (fuel i : Nat) (last acc : Int) (I : List Bool), p.nodes_.length - i < fuel → (i = 0 ∧ last = -1 ∨ ∃ j : Nat, i = j + 1 ∧ last = p.nodes_.getD j default) → -1 ≤ last → 0 ≤ acc → acc ≤ 100 * (i : Int) → Inn (p.nodes_.take i) a.length I →
    (RisB (p.nodes_.drop i) a.length last ∧ ∃ I', ref19_Bytes.l0 a p fuel (I, acc, (i : Int)) = some (.inl (I', acc + zsum a (p.nodes_.drop i))) ∧ Inn p.nodes_ a.length I') ∨ (¬ RisB (p.nodes_.drop i) a.length last ∧ ref19_Bytes.l0 a p fuel (I, acc, (i : Int)) = some (.inr (-1)))
  | 0, i, last, acc, I, h, _, _, _, _, _ => by omega
  | fuel + 1, i, last, acc, I, h, hj, hla, h1, h2, hI => by
    rw [ref19_Bytes.l0]
    rcases Nat.lt_or_ge i p.nodes_.length with hi | hi
    · rw [bif_true (decide_eq_true (by omega)), gd_pos (by omega), gt_nat, drop_cons default hi, risB_cons hla, w64_nat (x := (i : Int) + 1) (k := i + 1) (by simp) (by omega)]
      have hti : p.nodes_.take (i + 1) = p.nodes_.take i ++ [p.nodes_.getD i default] := take_succ_getD hi
      have hnext : i + 1 = 0 ∧ p.nodes_.getD i default = -1 ∨ ∃ j : Nat, i + 1 = j + 1 ∧ p.nodes_.getD i default = p.nodes_.getD j default := .inr ⟨i, rfl, rfl⟩
      generalize p.nodes_.getD i default = x at *
      have hprev : (bif decide ((i : Int) > 0) then
                gd (0 ≤ w64 ((i : Int) - 1) ∧ w64 ((i : Int) - 1) < (p.nodes_.length : Int)) <|
                some (decide (x ≤ (gt p.nodes_ (w64 ((i : Int) - 1)))))
              else
                some false) = some (decide (0 ≤ x ∧ x ≤ last) || decide (x ≤ last ∧ 0 < i)) := by
        rcases hj with ⟨rfl, rfl⟩ | ⟨j, rfl, rfl⟩
        · rw [bif_false (decide_eq_false (by omega)), decide_eq_false (by omega), decide_eq_false (by omega)]
          rfl
        · rw [bif_true (decide_eq_true (by omega)), w64_nat (k := j) (by omega) (by omega), gd_pos (by omega), gt_nat]
          congr 1
          by_cases hx : x ≤ p.nodes_.getD j default
          · rw [decide_eq_true hx, decide_eq_true (show x ≤ p.nodes_.getD j default ∧ 0 < j + 1 from ⟨hx, by omega⟩), Bool.or_true]
          · rw [decide_eq_false hx, decide_eq_false (fun h => hx h.2), decide_eq_false (fun h => hx h.1)]
            rfl
      by_cases c0 : x < 0
      · rw [bif_true (decide_eq_true c0), Option.bind_some, bif_true rfl]
        exact .inr ⟨fun h => by omega, rfl⟩
      · rw [bif_false (decide_eq_false c0)]
        by_cases c1 : x ≥ (a.length : Int)
        · rw [bif_true (decide_eq_true c1), Option.bind_some, bif_true rfl]
          exact .inr ⟨fun h => by omega, rfl⟩
        · rw [bif_false (decide_eq_false c1), hprev, Option.bind_some]
          by_cases c2 : x ≤ last
          · rw [bif_true (by rw [decide_eq_true (show 0 ≤ x ∧ x ≤ last by omega)]; rfl)]
            exact .inr ⟨fun h => by omega, rfl⟩
          · rw [bif_false (by rw [decide_eq_false (fun h => c2 h.2), decide_eq_false (fun h => c2 h.1)]; rfl)]
            obtain ⟨n, rfl⟩ : ∃ n : Nat, x = (n : Int) := ⟨x.toNat, by omega⟩
            obtain ⟨z0, -, z2, z3⟩ := hz n (by omega)
            have hIl := hI.len
            rw [gd_pos (by omega), z0, Option.bind_some, gd_pos (by omega), Int.toNat_natCast, w64_id (x := acc + zs a n) (by omega), zsum_cons]
            rcases rb_l0 hz hl ha fuel (i + 1) (n : Int) (acc + zs a n) (I.set n true) (by omega) hnext (by omega) (by omega) (by omega) ⟨by rw [List.length_set, hIl], fun u hu => by
              rw [getD_setB (by omega), hti]
              split
              · rename_i e
                subst e
                rw [decide_eq_true]
                simp
              · rename_i e
                rw [hI.at_ u hu, decide_eq_decide]
                simp only [List.mem_append, List.mem_singleton]
                constructor
                · exact .inl
                · rintro (h | h)
                  · exact h
                  · exact absurd (by omega) e⟩ with ⟨g1, I', g2, g3⟩ | ⟨g1, g2⟩
            · exact .inl ⟨⟨by omega, by omega, g1⟩, I', by rw [g2]; congr 3; omega, g3⟩
            · exact .inr ⟨fun h => g1 h.2.2, g2⟩
    · rw [bif_false (decide_eq_false (by omega)), List.drop_eq_nil_of_le hi]
      refine .inl ⟨⟨List.Pairwise.nil, fun v hv => by cases hv⟩, I, by simp [zsum], ?_⟩
      rw [List.take_of_length_le hi] at hI
      exact hI
/-- The children of a node that stand in a list. -/
def kl (a : List Node) (X : List Int) (i : Nat) : Nat → Nat → List Int
  | _, 0 => []
  | c, m + 1 => if kd a i c ≠ 0 ∧ kd a i c ∈ X then kd a i c :: kl a X i (c + 1) m else kl a X i (c + 1) m
def kls (a : List Node) (X : List Int) : Nat → Nat → List Int
  | _, 0 => []
  | i, m + 1 => (if (i : Int) ∈ X then kl a X i 0 16 else []) ++ kls a X (i + 1) m
theorem kl_len (a : List Node) (X : List Int) (i : Nat) : ∀ (m c : Nat), (kl a X i c m).length ≤ m
  | 0, c => Nat.le_refl _
  | m + 1, c => by
    have := kl_len a X i m (c + 1)
    rw [kl]
    split
    · simp only [List.length_cons]; omega
    · omega
theorem kls_len (a : List Node) (X : List Int) : ∀ (m i : Nat), (kls a X i m).length ≤ 16 * m
  | 0, i => Nat.zero_le _
  | m + 1, i => by
    have := kls_len a X m (i + 1)
    have := kl_len a X i 16 0
    rw [kls, List.length_append]
    split
    · omega
    · simp only [List.length_nil]; omega
theorem kl_mem {a : List Node} {X : List Int} {i : Nat} {v : Int} : ∀ (m c : Nat), v ∈ kl a X i c m ↔ v ≠ 0 ∧ v ∈ X ∧ ∃ c', c ≤ c' ∧ c' < c + m ∧ kd a i c' = v
  | 0, c => by
    simp only [kl, List.not_mem_nil, false_iff]
    rintro ⟨_, _, c', h1, h2, _⟩
    omega
  | m + 1, c => by
    have ih := kl_mem (a := a) (X := X) (i := i) (v := v) m (c + 1)
    rw [kl]
    split
    · rename_i h
      rw [List.mem_cons, ih]
      constructor
      · rintro (rfl | ⟨h1, h2, c', h3, h4, h5⟩)
        · exact ⟨h.1, h.2, c, Nat.le_refl _, by omega, rfl⟩
        · exact ⟨h1, h2, c', by omega, by omega, h5⟩
      · rintro ⟨h1, h2, c', h3, h4, h5⟩
        rcases Nat.eq_or_lt_of_le h3 with rfl | h3
        · exact .inl h5.symm
        · exact .inr ⟨h1, h2, c', by omega, by omega, h5⟩
    · rename_i h
      rw [ih]
      constructor
      · rintro ⟨h1, h2, c', h3, h4, h5⟩
        exact ⟨h1, h2, c', by omega, by omega, h5⟩
      · rintro ⟨h1, h2, c', h3, h4, h5⟩
        rcases Nat.eq_or_lt_of_le h3 with rfl | h3
        · subst h5
          exact absurd ⟨h1, h2⟩ h
        · exact ⟨h1, h2, c', by omega, by omega, h5⟩
theorem kls_mem {a : List Node} {X : List Int} {v : Int} : ∀ (m i : Nat), v ∈ kls a X i m ↔ v ≠ 0 ∧ v ∈ X ∧ ∃ i' c', i ≤ i' ∧ i' < i + m ∧ (i' : Int) ∈ X ∧ c' < 16 ∧ kd a i' c' = v
  | 0, i => by
    simp only [kls, List.not_mem_nil, false_iff]
    rintro ⟨_, _, i', c', h1, h2, _⟩
    omega
  | m + 1, i => by
    have ih := kls_mem (a := a) (X := X) (v := v) m (i + 1)
    rw [kls, List.mem_append, ih]
    constructor
    · rintro (h | ⟨h1, h2, i', c', h3, h4, h5, h6, h7⟩)
      · split at h
        · rename_i hi
          obtain ⟨h1, h2, c', h3, h4, h5⟩ := (kl_mem 16 0).mp h
          exact ⟨h1, h2, i, c', Nat.le_refl _, by omega, hi, by omega, h5⟩
        · cases h
      · exact ⟨h1, h2, i', c', by omega, by omega, h5, h6, h7⟩
    · rintro ⟨h1, h2, i', c', h3, h4, h5, h6, h7⟩
      rcases Nat.eq_or_lt_of_le h3 with rfl | h3
      · rw [if_pos h5]
        exact .inl ((kl_mem 16 0).mpr ⟨h1, h2, c', Nat.zero_le _, by omega, h7⟩)
      · exact .inr ⟨h1, h2, i', c', by omega, by omega, h5, h6, h7⟩
theorem kl_nodup {a : List Node} {n : Nat} (hP : Par1 a 0 n) {X : List Int} {i : Nat} (hi : i < n) : ∀ (m c : Nat), c + m ≤ 16 → (kl a X i c m).Nodup
  | 0, c, _ => List.nodup_nil
  | m + 1, c, hc => by
    have ih := kl_nodup hP (X := X) hi m (c + 1) (by omega)
    rw [kl]
    split
    · rename_i h
      refine List.nodup_cons.mpr ⟨fun hm => ?_, ih⟩
      obtain ⟨-, -, c', h3, h4, h5⟩ := (kl_mem m (c + 1)).mp hm
      have := (hP.u i c i c' (Nat.zero_le _) (by omega) (by omega) (Nat.zero_le _) (by omega) (by omega) h5.symm h.1).2
      omega
    · exact ih
theorem kls_nodup {a : List Node} {n : Nat} (hP : Par1 a 0 n) {X : List Int} : ∀ (m i : Nat), i + m ≤ n → (kls a X i m).Nodup
  | 0, i, _ => List.nodup_nil
  | m + 1, i, h => by
    rw [kls]
    refine List.nodup_append.mpr ⟨?_, kls_nodup hP m (i + 1) (by omega), fun v hv w hw e => ?_⟩
    · split
      · exact kl_nodup hP (by omega) 16 0 (by omega)
      · exact List.nodup_nil
    · subst e
      split at hv
      · obtain ⟨h1, h2, c', h3, h4, h5⟩ := (kl_mem 16 0).mp hv
        obtain ⟨-, -, i', c'', g3, g4, g5, g6, g7⟩ := (kls_mem m (i + 1)).mp hw
        have := (hP.u i c' i' c'' (Nat.zero_le _) (by omega) (by omega) (Nat.zero_le _) (by omega) g6 (by rw [h5, g7]) (by rw [h5]; exact h1)).1
        omega
      · cases hv
theorem isKid_iff {a : List Node} {v : Int} {y : Nat} : isKid a v (y : Int) ↔ v ≠ 0 ∧ ∃ c, c < 16 ∧ kd a y c = v := by
  unfold isKid kd
  rw [mem_kids]
/-- As many children are told by both. -/
theorem count_eq {a : List Node} (hP : Par1 a 0 a.length) {X : List Int} (hX : X.Pairwise (· < ·)) (hb : ∀ v ∈ X, 0 ≤ v ∧ v < (a.length : Int)) : (kls a X 0 a.length).length = (X.filter (fun v => decide (∃ y ∈ X, isKid a v y))).length := by
  have h1 : (kls a X 0 a.length).Nodup := kls_nodup hP a.length 0 (by omega)
  have h2 : (X.filter (fun v => decide (∃ y ∈ X, isKid a v y))).Nodup := (hX.imp fun h => by omega : X.Pairwise (· ≠ ·)).filter _
  have hm : ∀ v, v ∈ kls a X 0 a.length ↔ v ∈ X.filter (fun v => decide (∃ y ∈ X, isKid a v y)) := by
    intro v
    rw [kls_mem, List.mem_filter]
    simp only [decide_eq_true_eq]
    constructor
    · rintro ⟨g1, g2, i', c', g3, g4, g5, g6, g7⟩
      exact ⟨g2, (i' : Int), g5, isKid_iff.mpr ⟨g1, c', g6, g7⟩⟩
    · rintro ⟨g1, y, g2, g3⟩
      obtain ⟨b1, b2⟩ := hb y g2
      obtain ⟨i, rfl⟩ : ∃ i : Nat, y = (i : Int) := ⟨y.toNat, by omega⟩
      obtain ⟨k1, c, k2, k3⟩ := isKid_iff.mp g3
      exact ⟨k1, g1, i, c, Nat.zero_le _, by omega, g2, k2, k3⟩
  exact Nat.le_antisymm (nodup_le h1 fun v hv => (hm v).mp hv) (nodup_le h2 fun v hv => (hm v).mpr hv)
theorem gt_natB {X : List Bool} {i : Nat} : gt X (i : Int) = X.getD i false := gt_nat ..
theorem rb_l2 {a : List Node} (hP : Par1 a 0 a.length) {X : List Int} {I : List Bool} (hI : Inn X a.length I) {i : Nat} (hi : i < a.length) (hiX : (i : Int) ∈ X) : ∀ (fuel c : Nat) (acc : Int), 16 - c < fuel → c ≤ 16 → -10000000000 ≤ acc + 3 * (c : Int) → acc ≤ 10000000000 →
    ref19_Bytes.l2 a I (i : Int) fuel ((c : Int), acc) = some (acc - 3 * ((kl a X i c (16 - c)).length : Int))
  | 0, c, acc, h, _, _, _ => by omega
  | fuel + 1, c, acc, h, hc, h1, h2 => by
    have hIl := hI.len
    rw [ref19_Bytes.l2]
    rcases Nat.lt_or_ge c 16 with h16 | h16
    · rw [bif_true (decide_eq_true (by omega)), gd_pos (by omega), gt_natB, hI.at_ i hi, decide_eq_true hiX, Option.bind_some, bif_true rfl, gd_pos (by omega), gd_pos (by omega), w64_nat (x := (c : Int) + 1) (k := c + 1) (by simp) (by omega)]
      rw [show 16 - c = (16 - (c + 1)) + 1 by omega, kl]
      have hkl := kl_len a X i (16 - (c + 1)) (c + 1)
      have hv : vg (gt a (i : Int)).kids_ (c : Int) = kd a i c := rfl
      rw [hv]
      by_cases h0 : kd a i c = 0
      · rw [h0, bif_false (c := (0 : Int) != 0) rfl, Option.bind_some, bif_false rfl, Option.bind_some, if_neg (fun h => h.1 rfl)]
        exact rb_l2 hP hI hi hiX fuel (c + 1) acc (by omega) (by omega) (by omega) h2
      · rcases hP.k1 i c (Nat.zero_le _) (by omega) h16 with h | ⟨k, g1, g2, g3⟩
        · exact absurd h h0
        · rw [bif_true (by simpa using h0), g1, gd_pos (by omega), gt_natB, hI.at_ k (by omega), Option.bind_some]
          by_cases hk : (k : Int) ∈ X
          · rw [decide_eq_true hk, bif_true rfl, Option.bind_some, if_pos ⟨by omega, hk⟩, w64_id (by omega), rb_l2 hP hI hi hiX fuel (c + 1) (acc - 3) (by omega) (by omega) (by omega) (by omega)]
            simp only [List.length_cons]
            congr 1
            omega
          · rw [decide_eq_false hk, bif_false rfl, Option.bind_some, if_neg (fun h => hk h.2)]
            exact rb_l2 hP hI hi hiX fuel (c + 1) acc (by omega) (by omega) (by omega) h2
    · have : c = 16 := by omega
      subst this
      rw [bif_false (decide_eq_false (by omega)), Option.bind_some, bif_false rfl]
      simp [kl]
theorem rb_l2n {a : List Node} {X : List Int} {I : List Bool} (hI : Inn X a.length I) {i : Nat} (hi : i < a.length) (hiX : (i : Int) ∉ X) {acc : Int} {fuel : Nat} (hf : 0 < fuel) : ref19_Bytes.l2 a I (i : Int) fuel (0, acc) = some acc := by
  obtain ⟨f, rfl⟩ : ∃ f, fuel = f + 1 := ⟨fuel - 1, by omega⟩
  have hIl := hI.len
  rw [ref19_Bytes.l2, bif_true (by decide), gd_pos (by omega), gt_natB, hI.at_ i hi, decide_eq_false hiX, Option.bind_some, bif_false rfl]
theorem rb_l1 {a : List Node} (hP : Par1 a 0 a.length) (ha : a.length ≤ 1000000) {X : List Int} {I : List Bool} (hI : Inn X a.length I) : ∀ (fuel i : Nat) (acc : Int), a.length - i < fuel → i ≤ a.length → -1000000000 ≤ acc + 100 * (i : Int) → acc ≤ 1000000000 →
    ref19_Bytes.l1 a I fuel (acc, (i : Int)) = some (acc - 3 * ((kls a X i (a.length - i)).length : Int))
  | 0, i, acc, h, _, _, _ => by omega
  | fuel + 1, i, acc, h, hi, h1, h2 => by
    rw [ref19_Bytes.l1]
    rcases Nat.lt_or_ge i a.length with hlt | hge
    · rw [bif_true (decide_eq_true (by omega)), w64_nat (x := (i : Int) + 1) (k := i + 1) (by simp) (by omega)]
      rw [show a.length - i = (a.length - (i + 1)) + 1 by omega, kls, List.length_append]
      have hkl := kl_len a X i 16 0
      by_cases hx : (i : Int) ∈ X
      · have h3 := rb_l2 hP hI hlt hx BIG 0 acc (by have := BIG_ge; omega) (by omega) (by omega) (by omega)
        rw [show ((0 : Nat) : Int) = 0 from rfl, Nat.sub_zero] at h3
        rw [h3, Option.bind_some, if_pos hx, rb_l1 hP ha hI fuel (i + 1) _ (by omega) (by omega) (by omega) (by omega)]
        congr 1
        omega
      · rw [rb_l2n hI hlt hx (by have := BIG_ge; omega), Option.bind_some, if_neg hx, rb_l1 hP ha hI fuel (i + 1) _ (by omega) (by omega) (by omega) (by omega)]
        simp only [List.length_nil]
        congr 1
        omega
    · rw [bif_false (decide_eq_false (by omega)), show a.length - i = 0 by omega]
      simp [kls]
/-- Of any list of nodes: the program's bytes and the document's. -/
theorem bytes_any {a : List Node} (hz : Szd a) (hP : Par1 a 0 a.length) (ha : a.length ≤ 1000000) (h1 : trie_Good.f a = some true) (h2 : ref10_Good.f a = some true) {p : Plan} (hl : p.nodes_.length ≤ 300) :
    ∃ (b : Int) (y : Bool) (c : Int), pack_Bytes.f a p = some (b, y) ∧ ref19_Bytes.f a p = some c ∧ y = decide (c ≥ 0) ∧ b = if c > 0 then c else 0 := by
  unfold pack_Bytes.f ref19_Bytes.f
  have hp0 := pb_l0 (a := a) hl BIG 0 (-1) (by have := BIG_ge; omega) (by omega)
  have hr0 := rb_l0 hz hl ha BIG 0 (-1) 0 (List.replicate a.length false) (by have := BIG_ge; omega) (.inl ⟨rfl, rfl⟩) (by omega) (by omega) (by omega) ⟨by simp, fun u hu => by
    rw [List.getD_eq_getElem?_getD, List.getElem?_replicate, if_pos hu]
    simp⟩
  rw [show ((0 : Nat) : Int) = 0 from rfl, List.drop_zero] at hp0 hr0
  rw [h2, Option.bind_some, bif_false (c := !true) rfl, gd_pos (by omega), Int.toNat_natCast]
  rcases hp0 with ⟨g1, g2⟩ | ⟨g1, g2⟩
  · rcases hr0 with ⟨-, I, k2, k3⟩ | ⟨k1, -⟩
    · have hb : ∀ v ∈ p.nodes_, 0 ≤ v ∧ v < (a.length : Int) := fun v hv => by have := g1.2 v hv; omega
      have hs := zsum_le hz hb
      have hp1 := pb_l1 hz hl hb BIG 0 0 (by have := BIG_ge; omega) (by omega) (by omega)
      have hr1 := rb_l1 hP ha k3 BIG 0 (0 + zsum a p.nodes_) (by have := BIG_ge; omega) (by omega) (by omega) (by omega)
      rw [show ((0 : Nat) : Int) = 0 from rfl] at hp1 hr1
      rw [List.drop_zero] at hp1
      have hc := count_eq hP g1.1 hb
      have hfl : (p.nodes_.filter (fun v => decide (∃ y ∈ p.nodes_, isKid a v y))).length ≤ p.nodes_.length := List.length_filter_le _ _
      rw [g2, k2]
      simp only [Option.bind_some]
      rw [h1, Option.bind_some, bif_false (c := !true) rfl, hp1, hr1, Nat.sub_zero, hc]
      refine ⟨_, _, _, rfl, rfl, ?_, ?_⟩
      · rw [decide_eq_true]
        omega
      · split
        · rfl
        · omega
    · exact absurd g1 k1
  · rcases hr0 with ⟨k1, -⟩ | ⟨-, k2⟩
    · exact absurd k1 g1
    · rw [g2, k2]
      exact ⟨0, false, -1, rfl, rfl, rfl, rfl⟩
end Go.Lf
/- PackTells as a plain law. -/
set_option linter.unusedVariables false
set_option linter.unusedSimpArgs false
namespace Go.Lf
open Go
theorem long_l0 {a : List Node} : ∀ (fuel i n : Nat), 4001 - n < fuel → i ≤ n → n ≤ 20000 → (∀ j : Nat, j < i → j < a.length → (gt a (j : Int)).path_.size ≤ 4000 ∨ 4000 < n) →
    ∃ n' : Nat, keep_LongTrie.l0 a fuel ((n : Int), (i : Int)) = some (n' : Int) ∧ (n' ≤ 4000 → a.length ≤ n' ∧ ∀ j : Nat, j < a.length → (gt a (j : Int)).path_.size ≤ 4000)
  | 0, i, n, h, _, _, _ => by omega
  | fuel + 1, i, n, h, hin, hn, hj => by
    rw [keep_LongTrie.l0]
    by_cases c1 : i < a.length
    · rw [bif_true (decide_eq_true (by omega)), Option.bind_some]
      by_cases c2 : n ≤ 4000
      · have e1 : (if (4000 : Int) < (((gt a (i : Int)).path_).size : Int) then (4000 : Int) else (((gt a (i : Int)).path_).size : Int)) = ((min 4000 (gt a (i : Int)).path_.size : Nat) : Int) := by split <;> omega
        have e2 : (if (4000 : Int) < (((gt a (i : Int)).value_).size : Int) then (4000 : Int) else (((gt a (i : Int)).value_).size : Int)) = ((min 4000 (gt a (i : Int)).value_.size : Nat) : Int) := by split <;> omega
        generalize hp : min 4000 (gt a (i : Int)).path_.size = p at e1
        generalize hv : min 4000 (gt a (i : Int)).value_.size = v at e2
        have e3 : w64 (1 + (p : Int)) = ((1 + p : Nat) : Int) := w64_nat (by simp) (by omega)
        have e4 : w64 (((1 + p : Nat) : Int) + (v : Int)) = ((1 + p + v : Nat) : Int) := w64_nat (by simp) (by omega)
        have e5 : w64 ((n : Int) + ((1 + p + v : Nat) : Int)) = ((n + (1 + p + v) : Nat) : Int) := w64_nat (by simp) (by omega)
        rw [bif_true (decide_eq_true (by omega)), gd_pos (by omega), gd_pos (by omega), e1, e2, e3, e4, e5, w64_nat (x := (i : Int) + 1) (k := i + 1) (by simp) (by omega)]
        refine long_l0 fuel (i + 1) (n + (1 + p + v)) (by omega) (by omega) (by omega) (fun j h1 h2 => ?_)
        rcases Nat.eq_or_lt_of_le (Nat.le_of_lt_succ h1) with rfl | h1
        · omega
        · have := hj j h1 h2
          omega
      · rw [bif_false (decide_eq_false (by omega))]
        exact ⟨n, rfl, fun h => by omega⟩
    · rw [bif_false (decide_eq_false (by omega)), Option.bind_some, bif_false rfl]
      refine ⟨n, rfl, fun h => ⟨by omega, fun j hj' => ?_⟩⟩
      have := hj j (by omega) hj'
      omega
theorem long_any (a : List Node) : ∃ b, keep_LongTrie.f a = some b ∧ (b = false → a.length ≤ 1000 → Sm a) := by
  obtain ⟨n, h1, h2⟩ := long_l0 (a := a) BIG 0 0 (by have := BIG_ge; omega) (by omega) (by omega) (fun j h => by omega)
  rw [show ((0 : Nat) : Int) = 0 from rfl] at h1
  unfold keep_LongTrie.f
  rw [h1]
  refine ⟨_, rfl, fun h hl => ⟨hl, fun i => ?_⟩⟩
  have hn : n ≤ 4000 := by
    simp at h
    omega
  rcases Nat.lt_or_ge i a.length with hi | hi
  · have := (h2 hn).2 i hi
    omega
  · rw [gt_nat, List.getD_eq_getElem?_getD, List.getElem?_eq_none hi]
    exact Nat.zero_le _
theorem ktrie_l0 {a : List Node} (ha : a.length < 1000000000) : ∀ (fuel i : Nat), a.length - i < fuel → keep_Trie.l0 a a fuel i = some (.inl ())
  | 0, i, h => by omega
  | fuel + 1, i, h => by
    rw [keep_Trie.l0]
    rcases Nat.lt_or_ge i a.length with hi | hi
    · have g : 0 ≤ (i : Int) ∧ (i : Int) < (a.length : Int) := by omega
      rw [bif_true (decide_eq_true g.2), gd_pos g, gd_pos g, w64_nat (x := (i : Int) + 1) (k := i + 1) (by simp) (by omega)]
      have : eq_Node (gt a (i : Int)) (gt a (i : Int)) = true := by simp [eq_Node]
      rw [this, bif_false (c := !true) rfl]
      exact ktrie_l0 ha fuel (i + 1) (by omega)
    · rw [bif_false (decide_eq_false (by omega))]
theorem ktrie_ok {a : List Node} (ha : a.length < 1000000000) : keep_Trie.f a a = some true := by
  unfold keep_Trie.f
  rw [bif_false (c := (a.length : Int) != (a.length : Int)) (by simp)]
  have := ktrie_l0 ha BIG 0 (by have := BIG_ge; omega)
  rw [show ((0 : Nat) : Int) = 0 from rfl] at this
  rw [this]
  rfl
theorem kints_l0 {X : List Int} (hX : X.length < 1000000000) : ∀ (fuel i : Nat), X.length - i < fuel → keep_Ints.l0 X X fuel (i : Int) = some (.inl ())
  | 0, i, h => by omega
  | fuel + 1, i, h => by
    rw [keep_Ints.l0]
    rcases Nat.lt_or_ge i X.length with hi | hi
    · rw [bif_true (decide_eq_true (by omega)), gd_pos (by omega), gd_pos (by omega), bif_false (c := gt X (i : Int) != gt X (i : Int)) (by simp), w64_nat (x := (i : Int) + 1) (k := i + 1) (by simp) (by omega)]
      exact kints_l0 hX fuel (i + 1) (by omega)
    · rw [bif_false (decide_eq_false (by omega))]
theorem kints_self {X : List Int} (hX : X.length < 1000000000) : keep_Ints.f X X = some true := by
  unfold keep_Ints.f
  have h := kints_l0 hX BIG 0 (by have := BIG_ge; omega)
  rw [show ((0 : Nat) : Int) = 0 from rfl] at h
  rw [bif_false (c := (X.length : Int) != (X.length : Int)) (by simp), h]
  rfl
theorem kplans_l0 {X : List Plan} (hX : X.length < 1000000000) (hs : ∀ p ∈ X, p.nodes_.length < 1000000000 ∧ p.kids_.length < 1000000000) : ∀ (fuel i : Nat), X.length - i < fuel → keep_Plans.l0 X X fuel (i : Int) = some (.inl ())
  | 0, i, h => by omega
  | fuel + 1, i, h => by
    rw [keep_Plans.l0]
    rcases Nat.lt_or_ge i X.length with hi | hi
    · have g : 0 ≤ (i : Int) ∧ (i : Int) < (X.length : Int) := by omega
      have hm : gt X (i : Int) ∈ X := by rw [gt_nat]; exact getD_mem hi
      obtain ⟨h1, h2⟩ := hs _ hm
      rw [bif_true (decide_eq_true (by omega)), gd_pos g, gd_pos g, gd_pos g, gd_pos g, gd_pos g, gd_pos g, gd_pos g, gd_pos g, seq_B, decide_eq_true rfl, bif_false (c := !true) rfl, bif_false (c := (gt X (i : Int)).top_ != (gt X (i : Int)).top_) (by simp), kints_self h1, Option.bind_some, bif_false (c := !true) rfl, kints_self h2, Option.bind_some, Option.bind_some, bif_false (c := !true) rfl, w64_nat (x := (i : Int) + 1) (k := i + 1) (by simp) (by omega)]
      exact kplans_l0 hX hs fuel (i + 1) (by omega)
    · rw [bif_false (decide_eq_false (by omega))]
theorem kplans_self {X : List Plan} (hX : X.length < 1000000000) (hs : ∀ p ∈ X, p.nodes_.length < 1000000000 ∧ p.kids_.length < 1000000000) : keep_Plans.f X X = some true := by
  unfold keep_Plans.f
  have h := kplans_l0 hX hs BIG 0 (by have := BIG_ge; omega)
  rw [show ((0 : Nat) : Int) = 0 from rfl] at h
  rw [bif_false (c := (X.length : Int) != (X.length : Int)) (by simp), h]
  rfl
section
variable {l : List Pair} (hm : MayP l) (hl : l.length < 10000)
include hm hl
theorem node_t {i : Nat} (hi : i < (tri l).length) : ∃ t, Lies (tri l) i t ∧ t.ok := by
  obtain ⟨k, hk, hik⟩ := nd_all hm hl hi
  obtain ⟨b, t, e1, e2, e3, e4, e5, e6⟩ := sheets_ent hm hl hk
  have hik' : (i : Int) ∈ ((sheets l).getD k default).nodes_ := hik
  rw [e3] at hik'
  obtain ⟨y, hy, he⟩ := mem_ix.mp hik'
  obtain ⟨h1, h2⟩ := (gr_sts e1 e2).1 y hy
  have : y.1 = i := by omega
  rw [this] at h1
  exact ⟨_, h1, h2⟩
theorem tri_szd : Szd (tri l) := by
  intro i hi
  obtain ⟨t, h1, h2⟩ := node_t hm hl hi
  have h3 := rsize_ok h1 h2
  have h4 := size_ok h1 h2
  have hz : zs (tri l) (i : Int) = ((t.own : Nat) : Int) := by
    unfold zs
    rw [h3]
    rfl
  have := T.own_ge t
  have := T.own_le h2
  rw [hz]
  exact ⟨h3, h4, by omega, by omega⟩
end
theorem packTells_plain (wk : law19_wakes.f = some true) (a : List Node) (a1 : Int) (p : Plan) : law19_PackTells.f a a1 p = some true := by
  unfold law19_PackTells.f
  obtain ⟨b, hb, hS⟩ := long_any a
  rw [hb, Option.bind_some]
  have out : (bif true then (law19_wakes.f).bind fun y164 => some y164 else (none : Option Bool)) = some true := by
    rw [bif_true rfl, wk]; rfl
  cases b
  · rw [bif_false rfl]
    by_cases c1 : 200 < a.length
    · rw [bif_true (decide_eq_true (by omega)), Option.bind_some, bif_true rfl, wk]
      rfl
    rw [bif_false (decide_eq_false (by omega))]
    by_cases c2 : 300 < p.nodes_.length
    · rw [bif_true (decide_eq_true (by omega)), Option.bind_some, bif_true rfl, wk]
      rfl
    rw [bif_false (decide_eq_false (by omega)), Option.bind_some]
    by_cases c3 : 300 < p.kids_.length
    · rw [bif_true (decide_eq_true (by omega)), wk]
      rfl
    rw [bif_false (decide_eq_false (by omega)), gd_pos (by simp; omega), List.nil_append]
    have hz := hS rfl (by omega)
    have hk := ktrie_ok (a := a) (by omega)
    suffices h : ∃ (L : List Plan) (ok : Bool) (n : Int) (x : Bool) (m b : Int) (y : Bool) (c : Int), pack_Of.f a = some (L, ok) ∧ ref19_Of.f a = some ⟨L, ok⟩ ∧ keep_Plans.f L L = some true ∧ pack_Size.f a a1 = some (n, x) ∧ ref19_Size.f a a1 = some m ∧ x = decide (m ≥ 0) ∧ n = (if m > 0 then m else 0) ∧ pack_Bytes.f a p = some (b, y) ∧ ref19_Bytes.f a p = some c ∧ y = decide (c ≥ 0) ∧ b = (if c > 0 then c else 0) by
      obtain ⟨L, ok, n, x, m, b, y, c, h1, h2, h3, h4, h5, h6, h7, h8, h9, h10, h11⟩ := h
      rw [h1]
      simp only [Option.bind_some]
      rw [h2]
      simp only [Option.bind_some]
      rw [h4]
      simp only [Option.bind_some]
      rw [h5]
      simp only [Option.bind_some]
      rw [h8]
      simp only [Option.bind_some]
      rw [h9]
      simp only [Option.bind_some]
      rw [h3, Option.bind_some, bif_true rfl, bif_true (by simp), h6, bif_true (by simp), h7, bif_true (by simp), h10, bif_true (by simp), h11, bif_true (by simp), hk, Option.bind_some, bif_true rfl, wk]
      rfl
    rcases good_any hz with ⟨g1, g2⟩ | ⟨l, hm, hl, rfl⟩
    · have hw : ∃ w, trie_walked.f a = some (w, false) := by
        unfold trie_Good.f at g1
        cases hh : trie_walked.f a with
        | none => rw [hh] at g1; cases g1
        | some v =>
          obtain ⟨w, k⟩ := v
          rw [hh] at g1
          simp at g1
          exact ⟨w, by rw [g1]⟩
      obtain ⟨w, hw⟩ := hw
      have hp : ∃ g, ref10_Pairs.f a = some g ∧ g.ok_ = false := by
        unfold ref10_Good.f at g2
        cases hh : ref10_Pairs.f a with
        | none => rw [hh] at g2; cases g2
        | some v =>
          rw [hh] at g2
          simp at g2
          exact ⟨v, rfl, g2⟩
      obtain ⟨g, hg1, hg2⟩ := hp
      refine ⟨[], false, 0, false, -1, 0, false, -1, ?_, ?_, ?_, ?_, ?_, rfl, rfl, ?_, ?_, rfl, rfl⟩
      · unfold pack_Of.f trie_Paths.f
        rw [hw]
        rfl
      · unfold ref19_Of.f
        rw [hg1]
        simp only [Option.bind_some]
        rw [hg2]
        rfl
      · exact kplans_self (by simp) (by simp)
      · unfold pack_Size.f
        rw [g1]
        cases decide (a1 < 0)
        · cases decide (a1 ≥ (a.length : Int))
          · rfl
          · rfl
        · rfl
      · unfold ref19_Size.f
        rw [g2]
        rfl
      · unfold pack_Bytes.f
        rcases pb_l0 (a := a) (p := p) (by omega) BIG 0 (-1) (by have := BIG_ge; omega) (by omega) with ⟨-, h⟩ | ⟨-, h⟩
        · rw [show ((0 : Nat) : Int) = 0 from rfl] at h
          rw [h]
          simp only [Option.bind_some]
          rw [g1]
          rfl
        · rw [show ((0 : Nat) : Int) = 0 from rfl] at h
          rw [h]
          rfl
      · unfold ref19_Bytes.f
        rw [g2]
        rfl
    · have hl' : l.length < 10000 := by omega
      have hzd := tri_szd hm hl'
      obtain ⟨s1, s2⟩ := sheets_len hm hl'
      have hP : Par1 (tri l) 0 (tri l).length := by
        by_cases he : l = []
        · subst he
          exact ⟨fun i c h1 h2 => by simp [tri] at h2, fun i c i' c' h1 h2 => by simp [tri] at h2⟩
        · exact (tri_par hm hl' (List.length_pos_iff.mpr he)).1
      obtain ⟨bb, yy, cc, b1, b2, b3, b4⟩ := bytes_any hzd hP (by omega) (good_ok hm hl') (rgood_ok hm hl') (p := p) (by omega)
      have hks : keep_Plans.f (sheets l) (sheets l) = some true := kplans_self (by omega) fun q hq => by
        obtain ⟨k, hk, rfl⟩ := mem_getD (d := default) hq
        have h1 := nd_len hm hl' hk
        have h2 := kd_len hm hl' hk
        unfold Nd at h1
        unfold Kd at h2
        omega
      by_cases hi : 0 ≤ a1 ∧ a1 < ((tri l).length : Int)
      · obtain ⟨i, rfl⟩ : ∃ i : Nat, a1 = (i : Int) := ⟨a1.toNat, by omega⟩
        obtain ⟨z1, z2, z3, z4⟩ := hzd i (by omega)
        refine ⟨_, _, zs (tri l) i, true, zs (tri l) i, bb, yy, cc, Of_ok hm hl', of19_ok hm hl', hks, ?_, ?_, by rw [decide_eq_true]; omega, by split <;> omega, b1, b2, b3, b4⟩
        · unfold pack_Size.f
          rw [bif_false (decide_eq_false (by omega)), bif_false (decide_eq_false (by omega)), good_ok hm hl']
          simp only [Option.bind_some]
          rw [bif_false (c := !true) rfl, gd_pos (by omega), z2]
          rfl
        · unfold ref19_Size.f
          rw [rgood_ok hm hl', Option.bind_some, bif_false (c := !true) rfl, bif_false (decide_eq_false (by omega)), Option.bind_some, bif_false (decide_eq_false (by omega)), gd_pos (by omega), z1]
          rfl
      · refine ⟨_, _, 0, false, -1, bb, yy, cc, Of_ok hm hl', of19_ok hm hl', hks, ?_, ?_, rfl, rfl, b1, b2, b3, b4⟩
        · unfold pack_Size.f
          by_cases c1 : a1 < 0
          · rw [bif_true (decide_eq_true c1)]
            rfl
          · rw [bif_false (decide_eq_false c1), bif_true (decide_eq_true (by omega))]
            rfl
        · unfold ref19_Size.f
          rw [rgood_ok hm hl', Option.bind_some, bif_false (c := !true) rfl]
          by_cases c1 : a1 < 0
          · rw [bif_true (decide_eq_true c1)]
            rfl
          · rw [bif_false (decide_eq_false c1), decide_eq_true (by omega)]
            rfl
  · rw [bif_true rfl, Option.bind_some, bif_true rfl, wk]
    rfl
end Go.Lf
