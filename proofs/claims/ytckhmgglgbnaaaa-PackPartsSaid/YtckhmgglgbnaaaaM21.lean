/- A sheet's nodes and the trees that it leads to are all that stands there, each once. -/
import Derived.Test.YtckhmgglgbnaaaaM18
set_option linter.unusedVariables false
set_option linter.unusedSimpArgs false
namespace Go.Lf
open Go
/-- These trees stand one behind the other. -/
def AscI (lo hi : Nat) (M : List (Nat × T)) : Prop := M.Pairwise (fun x y => x.1 + x.2.sz ≤ y.1) ∧ ∀ x ∈ M, lo ≤ x.1 ∧ x.1 + x.2.sz ≤ hi
theorem AscI.app {lo mid hi : Nat} {x y : List (Nat × T)} (h : AscI lo mid x) (h' : AscI mid hi y) (h1 : lo ≤ mid) (h2 : mid ≤ hi) : AscI lo hi (x ++ y) := by
  refine ⟨List.pairwise_append.mpr ⟨h.1, h'.1, fun a ha b hb => ?_⟩, fun z hz => ?_⟩
  · have := (h.2 a ha).2
    have := (h'.2 b hb).1
    omega
  · rcases List.mem_append.mp hz with hz | hz
    · have := h.2 z hz; omega
    · have := h'.2 z hz; omega
/-- These nodes and these trees are all that stands from lo to hi, each once. -/
structure Cov (lo hi : Nat) (N M : List (Nat × T)) : Prop where
  asc : Asc lo hi N
  int : AscI lo hi M
  off : ∀ x ∈ N, ∀ y ∈ M, x.1 < y.1 ∨ y.1 + y.2.sz ≤ x.1
  all : ∀ v, lo ≤ v → v < hi → (∃ x ∈ N, x.1 = v) ∨ ∃ y ∈ M, y.1 ≤ v ∧ v < y.1 + y.2.sz
theorem Cov.app {lo mid hi : Nat} {N M N' M' : List (Nat × T)} (h : Cov lo mid N M) (h' : Cov mid hi N' M') (h1 : lo ≤ mid) (h2 : mid ≤ hi) : Cov lo hi (N ++ N') (M ++ M') where
  asc := h.asc.app h'.asc h1 h2
  int := h.int.app h'.int h1 h2
  off := fun x hx y hy => by
    rcases List.mem_append.mp hx with hx | hx <;> rcases List.mem_append.mp hy with hy | hy
    · exact h.off x hx y hy
    · have := (h.asc.2 x hx).2
      have := (h'.int.2 y hy).1
      omega
    · have := (h'.asc.2 x hx).1
      have := (h.int.2 y hy).2
      omega
    · exact h'.off x hx y hy
  all := fun v hv hv' => by
    rcases Nat.lt_or_ge v mid with hm | hm
    · rcases h.all v hv hm with ⟨x, hx, e⟩ | ⟨y, hy, e⟩
      · exact .inl ⟨x, List.mem_append_left _ hx, e⟩
      · exact .inr ⟨y, List.mem_append_left _ hy, e⟩
    · rcases h'.all v hm hv' with ⟨x, hx, e⟩ | ⟨y, hy, e⟩
      · exact .inl ⟨x, List.mem_append_right _ hx, e⟩
      · exact .inr ⟨y, List.mem_append_right _ hy, e⟩
/-- i is the place of one of these. -/
def On (N M : List (Nat × T)) (i : Nat) : Prop := (∃ y ∈ N, y.1 = i) ∨ ∃ y ∈ M, y.1 = i
theorem On.mono {N M N' M' : List (Nat × T)} {i : Nat} (h : On N M i) (h1 : ∀ x ∈ N, x ∈ N') (h2 : ∀ x ∈ M, x ∈ M') : On N' M' i := by
  rcases h with ⟨y, hy, e⟩ | ⟨y, hy, e⟩
  · exact .inl ⟨y, h1 y hy, e⟩
  · exact .inr ⟨y, h2 y hy, e⟩
/-- i is a child's place. -/
def kidOf (x : Nat × T) (i : Nat) : Prop := match x.2 with | .node l ks => ks.kid (x.1 + 1) i
def KidsIn (N M : List (Nat × T)) : Prop := ∀ x ∈ N, ∀ i, kidOf x i → On N M i
mutual
theorem T.grow_cov : ∀ (t : T) (b : Nat) (s : Gs), ∃ N M, (t.grow b s).nodes = s.nodes ++ (b, t) :: N ∧ (t.grow b s).tops = s.tops ++ M ∧ Cov b (b + t.sz) ((b, t) :: N) M ∧ KidsIn ((b, t) :: N) M
  | .node l ks, b, s => by
    obtain ⟨N, M, h1, h2, h3, h4, h5⟩ := Ks.grow_cov ks (b + 1) { s with nodes := s.nodes ++ [(b, .node l ks)] }
    have hc : Cov b (b + 1) [(b, T.node l ks)] [] := {
      asc := ⟨List.pairwise_singleton .., fun x hx => by simp at hx; subst hx; show b ≤ b ∧ b < b + 1; omega⟩
      int := ⟨List.Pairwise.nil, by simp⟩
      off := by simp
      all := fun v h h' => .inl ⟨_, List.mem_cons_self .., by show b = v; omega⟩ }
    refine ⟨N, M, by rw [T.grow, h1]; simp, by rw [T.grow, h2], ?_, fun x hx i hi => ?_⟩
    · rw [T.sz, show b + (ks.sz + 1) = b + 1 + ks.sz by omega]
      exact hc.app h3 (by omega) (by omega)
    · rcases List.mem_cons.mp hx with rfl | hx
      · exact (h5 i hi).mono (fun x hx => List.mem_cons_of_mem _ hx) fun x hx => hx
      · exact (h4 x hx i hi).mono (fun x hx => List.mem_cons_of_mem _ hx) fun x hx => hx
theorem Ks.grow_cov : ∀ (ks : Ks) (b : Nat) (s : Gs), ∃ N M, (ks.grow b s).nodes = s.nodes ++ N ∧ (ks.grow b s).tops = s.tops ++ M ∧ Cov b (b + ks.sz) N M ∧ KidsIn N M ∧ ∀ i, ks.kid b i → On N M i
  | .nil, b, s => ⟨[], [], by simp [Ks.grow], by simp [Ks.grow], ⟨⟨List.Pairwise.nil, by simp⟩, ⟨List.Pairwise.nil, by simp⟩, by simp, fun v h h' => by simp only [Ks.sz] at h'; omega⟩, fun x hx => by simp at hx, fun i h => h.elim⟩
  | .cons c t ks, b, s => by
    have hp := T.sz_pos t
    rw [Ks.grow, Ks.sz, ← Nat.add_assoc]
    split
    · obtain ⟨N, M, h1, h2, h3, h4, h5⟩ := Ks.grow_cov ks (b + t.sz) { s with tops := s.tops ++ [(b, t)] }
      have hc : Cov b (b + t.sz) [] [(b, t)] := {
        asc := ⟨List.Pairwise.nil, by simp⟩
        int := ⟨List.pairwise_singleton .., fun x hx => by simp at hx; subst hx; show b ≤ b ∧ b + t.sz ≤ b + t.sz; omega⟩
        off := by simp
        all := fun v h h' => .inr ⟨_, List.mem_cons_self .., h, h'⟩ }
      refine ⟨N, (b, t) :: M, h1, by rw [h2]; simp, hc.app h3 (by omega) (by omega), fun x hx i hi => (h4 x hx i hi).mono (fun x hx => hx) fun x hx => List.mem_cons_of_mem _ hx, fun i hi => ?_⟩
      rcases hi with rfl | hi
      · exact .inr ⟨_, List.mem_cons_self .., rfl⟩
      · exact (h5 i hi).mono (fun x hx => hx) fun x hx => List.mem_cons_of_mem _ hx
    · obtain ⟨N, M, g1, g2, g3, g4⟩ := T.grow_cov t b { s with used := s.used + (t.own - 3) }
      obtain ⟨N', M', h1, h2, h3, h4, h5⟩ := Ks.grow_cov ks (b + t.sz) (t.grow b { s with used := s.used + (t.own - 3) })
      refine ⟨(b, t) :: N ++ N', M ++ M', by rw [h1, g1]; simp, by rw [h2, g2]; simp, g3.app h3 (by omega) (by omega), fun x hx i hi => ?_, fun i hi => ?_⟩
      · rcases List.mem_append.mp hx with hx | hx
        · exact (g4 x hx i hi).mono (fun x hx => List.mem_append_left _ hx) fun x hx => List.mem_append_left _ hx
        · exact (h4 x hx i hi).mono (fun x hx => List.mem_append_right _ hx) fun x hx => List.mem_append_right _ hx
      · rcases hi with rfl | hi
        · exact .inl ⟨(_, t), by simp, rfl⟩
        · exact (h5 i hi).mono (fun x hx => List.mem_append_right _ hx) fun x hx => List.mem_append_right _ hx
end
theorem gr_cov (t : T) (b : Nat) : ∃ N, (gr t b).nodes = (b, t) :: N ∧ Cov b (b + t.sz) (gr t b).nodes (gr t b).tops ∧ KidsIn (gr t b).nodes (gr t b).tops := by
  obtain ⟨N, M, h1, h2, h3, h4⟩ := T.grow_cov t b ⟨[], t.own, []⟩
  unfold gr
  rw [h1, h2]
  exact ⟨N, rfl, h3, h4⟩
/-- These sheets are of all that stands from lo to hi; they are numbered from me on. -/
structure Prt (lo hi me : Nat) (L : List Plan) : Prop where
  nod : L.Pairwise (fun p q => ∀ v ∈ p.nodes_, v ∉ q.nodes_)
  rng : ∀ p ∈ L, ∀ v ∈ p.nodes_, ∃ n : Nat, v = (n : Int) ∧ lo ≤ n ∧ n < hi
  all : ∀ n : Nat, lo ≤ n → n < hi → ∃ p ∈ L, (n : Int) ∈ p.nodes_
  hd : ∀ p ∈ L, p.top_ ∈ p.nodes_
  top : L.Pairwise (fun p q => p.top_ < q.top_)
  kid : L.Pairwise (fun p q => ∀ v ∈ p.kids_, v ∉ q.kids_)
  krng : ∀ p ∈ L, ∀ v ∈ p.kids_, ∃ n : Nat, v = (n : Int) ∧ me < n ∧ n < me + L.length
  kall : ∀ n : Nat, me < n → n < me + L.length → ∃ p ∈ L, (n : Int) ∈ p.kids_
  krise : ∀ p ∈ L, p.kids_.Pairwise (· < ·)
/-- The same of the sheets of trees that stand one behind the other; ks are the numbers of their first ones. -/
structure PrL (M : List (Nat × T)) (nx : Nat) (ks : List Int) (L : List Plan) : Prop where
  nod : L.Pairwise (fun p q => ∀ v ∈ p.nodes_, v ∉ q.nodes_)
  rng : ∀ p ∈ L, ∀ v ∈ p.nodes_, ∃ n : Nat, v = (n : Int) ∧ ∃ y ∈ M, y.1 ≤ n ∧ n < y.1 + y.2.sz
  all : ∀ y ∈ M, ∀ n : Nat, y.1 ≤ n → n < y.1 + y.2.sz → ∃ p ∈ L, (n : Int) ∈ p.nodes_
  hd : ∀ p ∈ L, p.top_ ∈ p.nodes_
  top : L.Pairwise (fun p q => p.top_ < q.top_)
  kid : L.Pairwise (fun p q => ∀ v ∈ p.kids_, v ∉ q.kids_)
  krng : ∀ p ∈ L, ∀ v ∈ p.kids_, ∃ n : Nat, v = (n : Int) ∧ nx < n ∧ n < nx + L.length
  krise : ∀ p ∈ L, p.kids_.Pairwise (· < ·)
  ksr : ks.Pairwise (· < ·)
  ksb : ∀ v ∈ ks, ∃ n : Nat, v = (n : Int) ∧ nx ≤ n ∧ n < nx + L.length
  kdis : ∀ v ∈ ks, ∀ p ∈ L, v ∉ p.kids_
  kall : ∀ n : Nat, nx ≤ n → n < nx + L.length → (n : Int) ∈ ks ∨ ∃ p ∈ L, (n : Int) ∈ p.kids_
theorem shL_prt {rc : T → Nat → Nat → List Plan} : ∀ (M : List (Nat × T)) (nx lo hi : Nat), AscI lo hi M → (∀ y ∈ M, ∀ me, Prt y.1 (y.1 + y.2.sz) me (rc y.2 y.1 me)) → PrL M nx (shL rc M nx).1 (shL rc M nx).2
  | [], nx, lo, hi, _, _ => by
    constructor <;> simp [shL]
  | y :: M, nx, lo, hi, hA, hR => by
    have h1 := hR y (List.mem_cons_self ..) nx
    have h2 := shL_prt (rc := rc) M (nx + (rc y.2 y.1 nx).length) lo hi ⟨(List.pairwise_cons.mp hA.1).2, fun x hx => hA.2 x (List.mem_cons_of_mem _ hx)⟩ (fun z hz => hR z (List.mem_cons_of_mem _ hz))
    have hfar := (List.pairwise_cons.mp hA.1).1
    have hpos : 0 < (rc y.2 y.1 nx).length := by
      have := T.sz_pos y.2
      obtain ⟨p, hp, -⟩ := h1.all y.1 (Nat.le_refl _) (by omega)
      exact List.length_pos_of_mem hp
    have hcross : ∀ p ∈ rc y.2 y.1 nx, ∀ q ∈ (shL rc M (nx + (rc y.2 y.1 nx).length)).2, ∀ v ∈ p.nodes_, ∀ w ∈ q.nodes_, v < w := by
      intro p hp q hq v hv w hw
      obtain ⟨n, e1, e2, e3⟩ := h1.rng p hp v hv
      obtain ⟨m, f1, z, f2, f3, f4⟩ := h2.rng q hq w hw
      have := hfar z f2
      omega
    simp only [shL]
    generalize hr : rc y.2 y.1 nx = A at *
    generalize hs : shL rc M (nx + A.length) = S at *
    obtain ⟨ks, L⟩ := S
    simp only at *
    refine ⟨?_, ?_, ?_, ?_, ?_, ?_, ?_, ?_, ?_, ?_, ?_, ?_⟩
    · refine List.pairwise_append.mpr ⟨h1.nod, h2.nod, fun p hp q hq v hv hw => ?_⟩
      have := hcross p hp q hq v hv v hw
      omega
    · intro p hp v hv
      rcases List.mem_append.mp hp with hp | hp
      · obtain ⟨n, e1, e2, e3⟩ := h1.rng p hp v hv
        exact ⟨n, e1, y, List.mem_cons_self .., e2, e3⟩
      · obtain ⟨n, e1, z, e2, e3⟩ := h2.rng p hp v hv
        exact ⟨n, e1, z, List.mem_cons_of_mem _ e2, e3⟩
    · intro z hz n g1 g2
      rcases List.mem_cons.mp hz with rfl | hz
      · obtain ⟨p, hp, e⟩ := h1.all n g1 g2
        exact ⟨p, List.mem_append_left _ hp, e⟩
      · obtain ⟨p, hp, e⟩ := h2.all z hz n g1 g2
        exact ⟨p, List.mem_append_right _ hp, e⟩
    · intro p hp
      rcases List.mem_append.mp hp with hp | hp
      · exact h1.hd p hp
      · exact h2.hd p hp
    · refine List.pairwise_append.mpr ⟨h1.top, h2.top, fun p hp q hq => ?_⟩
      exact hcross p hp q hq _ (h1.hd p hp) _ (h2.hd q hq)
    · refine List.pairwise_append.mpr ⟨h1.kid, h2.kid, fun p hp q hq v hv hw => ?_⟩
      obtain ⟨n, e1, e2, e3⟩ := h1.krng p hp v hv
      obtain ⟨m, f1, f2, f3⟩ := h2.krng q hq v hw
      omega
    · intro p hp v hv
      rw [List.length_append]
      rcases List.mem_append.mp hp with hp | hp
      · obtain ⟨n, e1, e2, e3⟩ := h1.krng p hp v hv
        exact ⟨n, e1, e2, by omega⟩
      · obtain ⟨n, e1, e2, e3⟩ := h2.krng p hp v hv
        exact ⟨n, e1, by omega, by omega⟩
    · intro p hp
      rcases List.mem_append.mp hp with hp | hp
      · exact h1.krise p hp
      · exact h2.krise p hp
    · refine List.pairwise_cons.mpr ⟨fun v hv => ?_, h2.ksr⟩
      obtain ⟨n, e1, e2, e3⟩ := h2.ksb v hv
      omega
    · intro v hv
      rw [List.length_append]
      rcases List.mem_cons.mp hv with rfl | hv
      · exact ⟨nx, rfl, Nat.le_refl _, by omega⟩
      · obtain ⟨n, e1, e2, e3⟩ := h2.ksb v hv
        exact ⟨n, e1, by omega, by omega⟩
    · intro v hv p hp hk
      rcases List.mem_cons.mp hv with rfl | hv <;> rcases List.mem_append.mp hp with hp | hp
      · obtain ⟨n, e1, e2, e3⟩ := h1.krng p hp _ hk
        omega
      · obtain ⟨n, e1, e2, e3⟩ := h2.krng p hp _ hk
        omega
      · obtain ⟨n, e1, e2, e3⟩ := h1.krng p hp _ hk
        obtain ⟨m, f1, f2, f3⟩ := h2.ksb v hv
        omega
      · exact h2.kdis v hv p hp hk
    · intro n g1 g2
      rw [List.length_append] at g2
      rcases Nat.lt_or_ge n (nx + A.length) with hn | hn
      · rcases Nat.eq_or_lt_of_le g1 with rfl | g1
        · exact .inl (List.mem_cons_self ..)
        · obtain ⟨p, hp, e⟩ := h1.kall n g1 hn
          exact .inr ⟨p, List.mem_append_left _ hp, e⟩
      · rcases h2.kall n hn (by omega) with h | ⟨p, hp, e⟩
        · exact .inl (List.mem_cons_of_mem _ h)
        · exact .inr ⟨p, List.mem_append_right _ hp, e⟩
theorem mem_ix {X : List (Nat × T)} {v : Int} : v ∈ ix X ↔ ∃ x ∈ X, (x.1 : Int) = v := by simp [ix]
theorem shs_parts {a : List Node} (pp : List ByteArray) : ∀ (k : Nat) (t : T) (b me : Nat), Lies a b t → t.ok → t.sz ≤ k → Prt b (b + t.sz) me (shs pp k t b me)
  | 0, t, b, me, hl, ho, hk => by have := T.sz_pos t; omega
  | k + 1, t, b, me, hl, ho, hk => by
    obtain ⟨N, hN, hC, -⟩ := gr_cov t b
    have htops := gr_tops (b := b) ho
    have hsts := (gr_sts hl ho).2
    have h := shL_prt (rc := shs pp k) (gr t b).tops (me + 1) b (b + t.sz) hC.int (fun y hy me => shs_parts pp k y.2 y.1 me (hsts y hy).1 (hsts y hy).2 (by have := szs_mem hy; omega))
    simp only [shs]
    generalize hs : shL (shs pp k) (gr t b).tops (me + 1) = S at *
    obtain ⟨ks, L⟩ := S
    simp only at *
    have hfst : (b : Int) ∈ ix (gr t b).nodes := mem_ix.mpr ⟨(b, t), by rw [hN]; exact List.mem_cons_self .., rfl⟩
    have hcross : ∀ v ∈ ix (gr t b).nodes, ∀ q ∈ L, v ∉ q.nodes_ := by
      intro v hv q hq hw
      obtain ⟨x, hx, rfl⟩ := mem_ix.mp hv
      obtain ⟨n, e1, z, e2, e3, e4⟩ := h.rng q hq _ hw
      have := hC.off x hx z e2
      omega
    refine ⟨?_, ?_, ?_, ?_, ?_, ?_, ?_, ?_, ?_⟩
    · exact List.pairwise_cons.mpr ⟨fun q hq v hv => hcross v hv q hq, h.nod⟩
    · intro p hp v hv
      rcases List.mem_cons.mp hp with rfl | hp
      · obtain ⟨x, hx, rfl⟩ := mem_ix.mp hv
        exact ⟨x.1, rfl, hC.asc.2 x hx⟩
      · obtain ⟨n, e1, z, e2, e3, e4⟩ := h.rng p hp v hv
        have := hC.int.2 z e2
        exact ⟨n, e1, by omega, by omega⟩
    · intro n g1 g2
      rcases hC.all n g1 g2 with ⟨x, hx, e⟩ | ⟨y, hy, e1, e2⟩
      · exact ⟨_, List.mem_cons_self .., mem_ix.mpr ⟨x, hx, by rw [e]⟩⟩
      · obtain ⟨p, hp, e⟩ := h.all y hy n e1 e2
        exact ⟨p, List.mem_cons_of_mem _ hp, e⟩
    · intro p hp
      rcases List.mem_cons.mp hp with rfl | hp
      · exact hfst
      · exact h.hd p hp
    · refine List.pairwise_cons.mpr ⟨fun q hq => ?_, h.top⟩
      obtain ⟨n, e1, z, e2, e3, e4⟩ := h.rng q hq _ (h.hd q hq)
      have h1 := hC.int.2 z e2
      have h2 := hC.off (b, t) (by rw [hN]; exact List.mem_cons_self ..) z e2
      have := T.sz_pos z.2
      simp only at h2
      show (b : Int) < q.top_
      omega
    · refine List.pairwise_cons.mpr ⟨fun q hq v hv => h.kdis v hv q hq, h.kid⟩
    · intro p hp v hv
      rw [List.length_cons]
      rcases List.mem_cons.mp hp with rfl | hp
      · obtain ⟨n, e1, e2, e3⟩ := h.ksb v hv
        exact ⟨n, e1, by omega, by omega⟩
      · obtain ⟨n, e1, e2, e3⟩ := h.krng p hp v hv
        exact ⟨n, e1, by omega, by omega⟩
    · intro n g1 g2
      rw [List.length_cons] at g2
      rcases h.kall n (by omega) (by omega) with e | ⟨p, hp, e⟩
      · exact ⟨_, List.mem_cons_self .., e⟩
      · exact ⟨p, List.mem_cons_of_mem _ hp, e⟩
    · intro p hp
      rcases List.mem_cons.mp hp with rfl | hp
      · exact h.ksr
      · exact h.krise p hp
theorem sheets_prt {l : List Pair} (hm : MayP l) (hl : l.length < 10000) : Prt 0 (tri l).length 0 (sheets l) := by
  by_cases he : l = []
  · subst he
    have e1 : tri ([] : List Pair) = [] := rfl
    have e2 : sheets ([] : List Pair) = [] := rfl
    rw [e1, e2]
    constructor <;> simp
  · have h0 : 0 < l.length := List.length_pos_iff.mpr he
    have hs : sheets l = shs (trp l) (tre l).sz (tre l) 0 0 := by rw [sheets, if_neg he]
    have := shs_parts (a := tri l) (trp l) (tre l).sz (tre l) 0 0 (tre_lies h0) (tre_ok hm (by omega) h0) (Nat.le_refl _)
    rw [← hs, Nat.zero_add, ← tri_len h0] at this
    exact this
theorem getD_mem {α : Type} {L : List α} {k : Nat} {d : α} (h : k < L.length) : L.getD k d ∈ L := by
  rw [List.getD_eq_getElem?_getD, List.getElem?_eq_getElem h]; exact List.getElem_mem h
theorem Ks.at_kid : ∀ {ks : Ks} {b m : Nat} {v : V16}, ks.at b v m → ∀ c, m ≤ c → c < 16 → vg v (c : Int) = 0 ∨ ∃ i : Nat, vg v (c : Int) = (i : Int) ∧ ks.kid b i
  | .nil, b, m, v, h, c, h1, h2 => .inl (h c h1 h2)
  | .cons c' t ks, b, m, v, h, c, h1, h2 => by
    obtain ⟨g1, g2, g3, g4, g5⟩ := h
    rcases Nat.lt_trichotomy c c' with hc | rfl | hc
    · exact .inl (g3 c h1 hc)
    · exact .inr ⟨b, g4, .inl rfl⟩
    · rcases Ks.at_kid g5 c hc h2 with h | ⟨i, h, h'⟩
      · exact .inl h
      · exact .inr ⟨i, h, .inr h'⟩
theorem sheet_kid {l : List Pair} (hm : MayP l) (hl : l.length < 10000) {k : Nat} (hk : k < (sheets l).length) {i : Int} (hi : i ∈ ((sheets l).getD k default).nodes_) {c : Nat} (hc : c < 16) :
    vg (gt (tri l) i).kids_ (c : Int) = 0 ∨ vg (gt (tri l) i).kids_ (c : Int) ∈ ((sheets l).getD k default).nodes_ ∨ ∃ m : Nat, (m : Int) ∈ ((sheets l).getD k default).kids_ ∧ m < (sheets l).length ∧ ((sheets l).getD m default).top_ = vg (gt (tri l) i).kids_ (c : Int) := by
  obtain ⟨b, t, e1, e2, e3, e4, e5, e6⟩ := sheets_ent hm hl hk
  obtain ⟨k1, k2⟩ := KOK.get e6
  obtain ⟨N, hN, hC, hK⟩ := gr_cov t b
  rw [e3] at hi ⊢
  obtain ⟨x, hx, rfl⟩ := mem_ix.mp hi
  obtain ⟨l1, l2⟩ := (gr_sts e1 e2).1 x hx
  have hkk := hK x hx
  obtain ⟨xb, lab, ks⟩ := x
  have hg := l1.get
  simp only at hg l2 ⊢
  rw [hg]
  have hv : (lab.node (ks.vec (xb + 1) v0)).kids_ = ks.vec (xb + 1) v0 := rfl
  rw [hv]
  rcases Ks.at_kid (Ks.at_vec0 (b := xb + 1) l2.2.1) c (Nat.zero_le _) hc with h | ⟨j, h, h'⟩
  · exact .inl h
  · rw [h]
    refine .inr ?_
    rcases hkk j h' with ⟨y, hy, rfl⟩ | ⟨y, hy, rfl⟩
    · exact .inl (mem_ix.mpr ⟨y, hy, rfl⟩)
    · obtain ⟨q, hq, rfl⟩ := List.mem_iff_getElem.mp hy
      obtain ⟨m, f1, f2, f3, f4⟩ := k2 q (by omega)
      refine .inr ⟨m, ?_, f3, ?_⟩
      · rw [← f1]
        exact getD_mem (by omega)
      · rw [f4, List.getD_eq_getElem?_getD, List.getElem?_eq_getElem hq, Option.getD_some]
end Go.Lf
