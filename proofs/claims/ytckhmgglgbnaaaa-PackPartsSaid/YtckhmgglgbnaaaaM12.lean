/- A trie's sheets. -/
import Derived.Test.YtckhmgglgbnaaaaM11
set_option linter.unusedVariables false
set_option linter.unusedSimpArgs false
namespace Go.Lf
open Go
mutual
def T.tot : T → Nat
  | .node l ks => (T.node l ks).own + ks.tot
def Ks.tot : Ks → Nat
  | .nil => 0
  | .cons _ t ks => t.tot + ks.tot
end
def szs : List (Nat × T) → Nat
  | [] => 0
  | x :: r => x.2.sz + szs r
def tots : List (Nat × T) → Nat
  | [] => 0
  | x :: r => x.2.tot + tots r
def ows : List (Nat × T) → Nat
  | [] => 0
  | x :: r => x.2.own + ows r
theorem szs_app : ∀ x y, szs (x ++ y) = szs x + szs y
  | [], y => by simp [szs]
  | a :: x, y => by simp [szs, szs_app x y, Nat.add_assoc]
theorem tots_app : ∀ x y, tots (x ++ y) = tots x + tots y
  | [], y => by simp [tots]
  | a :: x, y => by simp [tots, tots_app x y, Nat.add_assoc]
theorem ows_app : ∀ x y, ows (x ++ y) = ows x + ows y
  | [], y => by simp [ows]
  | a :: x, y => by simp [ows, ows_app x y, Nat.add_assoc]
mutual
theorem T.grow_sum : ∀ (t : T) (b : Nat) (s : Gs), (t.grow b s).nodes.length + szs (t.grow b s).tops = s.nodes.length + szs s.tops + t.sz ∧ ows (t.grow b s).nodes + tots (t.grow b s).tops = ows s.nodes + tots s.tops + t.tot ∧
      (t.grow b s).used + 3 * (t.grow b s).nodes.length + ows s.nodes + t.own = s.used + 3 * s.nodes.length + ows (t.grow b s).nodes + 3
  | .node l ks, b, s => by
    obtain ⟨h1, h2, h3⟩ := Ks.grow_sum ks (b + 1) { s with nodes := s.nodes ++ [(b, .node l ks)] }
    simp only [List.length_append, List.length_singleton, ows_app, ows, T.grow, T.sz, T.tot] at *
    omega
theorem Ks.grow_sum : ∀ (ks : Ks) (b : Nat) (s : Gs), (ks.grow b s).nodes.length + szs (ks.grow b s).tops = s.nodes.length + szs s.tops + ks.sz ∧ ows (ks.grow b s).nodes + tots (ks.grow b s).tops = ows s.nodes + tots s.tops + ks.tot ∧
      (ks.grow b s).used + 3 * (ks.grow b s).nodes.length + ows s.nodes = s.used + 3 * s.nodes.length + ows (ks.grow b s).nodes
  | .nil, b, s => by simp [Ks.grow, Ks.sz, Ks.tot]
  | .cons c t ks, b, s => by
    have ho := T.own_ge t
    rw [Ks.grow, Ks.sz, Ks.tot]
    split
    · obtain ⟨h1, h2, h3⟩ := Ks.grow_sum ks (b + t.sz) { s with tops := s.tops ++ [(b, t)] }
      simp only [szs_app, tots_app, szs, tots] at *
      omega
    · obtain ⟨g1, g2, g3⟩ := T.grow_sum t b { s with used := s.used + (t.own - 3) }
      obtain ⟨h1, h2, h3⟩ := Ks.grow_sum ks (b + t.sz) (t.grow b { s with used := s.used + (t.own - 3) })
      simp only at *
      omega
end
/-- Trees that stand in a list of nodes. -/
def Sts (a : List Node) (x : List (Nat × T)) : Prop := ∀ y ∈ x, Lies a y.1 y.2 ∧ y.2.ok
theorem Sts.app {a : List Node} {x y : List (Nat × T)} (h : Sts a x) (h' : Sts a y) : Sts a (x ++ y) := fun z hz => by
  rcases List.mem_append.mp hz with hz | hz
  · exact h z hz
  · exact h' z hz
mutual
theorem T.grow_sts {a : List Node} : ∀ (t : T) (b : Nat) (s : Gs), Lies a b t → t.ok → Sts a s.nodes → Sts a s.tops → Sts a (t.grow b s).nodes ∧ Sts a (t.grow b s).tops
  | .node l ks, b, s, hl, ho, h1, h2 => by
    rw [T.grow]
    exact Ks.grow_sts ks (b + 1) _ hl.kids ho.2.2 (h1.app fun y hy => by simp at hy; subst hy; exact ⟨hl, ho⟩) h2
theorem Ks.grow_sts {a : List Node} : ∀ (ks : Ks) (b : Nat) (s : Gs), ks.all (LL a) b → ks.ok → Sts a s.nodes → Sts a s.tops → Sts a (ks.grow b s).nodes ∧ Sts a (ks.grow b s).tops
  | .nil, b, s, _, _, h1, h2 => ⟨h1, h2⟩
  | .cons c t ks, b, s, hl, ho, h1, h2 => by
    rw [Ks.grow]
    split
    · exact Ks.grow_sts ks _ _ hl.2 ho.2 h1 (h2.app fun y hy => by simp at hy; subst hy; exact ⟨hl.1, ho.1⟩)
    · obtain ⟨g1, g2⟩ := T.grow_sts t b { s with used := s.used + (t.own - 3) } hl.1 ho.1 h1 h2
      exact Ks.grow_sts ks _ _ hl.2 ho.2 g1 g2
end
def gr (t : T) (b : Nat) : Gs := t.grow b ⟨[], t.own, []⟩
/-- i is the place of one of these children. -/
def Ks.kid : Ks → Nat → Nat → Prop
  | .nil, _, _ => False
  | .cons _ t ks, b, i => i = b ∨ ks.kid (b + t.sz) i
def Par (y : Nat × T) (i : Nat) : Prop := match y.2 with | .node l ks => ∃ c : Nat, c < 16 ∧ vg (ks.vec (y.1 + 1) v0) (c : Int) = (i : Int)
theorem Ks.kid_at : ∀ {ks : Ks} {b m i : Nat} {v : V16}, ks.kid b i → ks.at b v m → ∃ c : Nat, c < 16 ∧ vg v (c : Int) = (i : Int)
  | .nil, b, m, i, v, h, _ => h.elim
  | .cons c t ks, b, m, i, v, h, ha => by
    obtain ⟨h1, h2, h3, h4, h5⟩ := ha
    rcases h with rfl | h
    · exact ⟨c, h2, h4⟩
    · exact Ks.kid_at h h5
def Asc (lo hi : Nat) (N : List (Nat × T)) : Prop := N.Pairwise (fun x y => x.1 < y.1) ∧ ∀ x ∈ N, lo ≤ x.1 ∧ x.1 < hi
theorem Asc.app {lo mid hi : Nat} {x y : List (Nat × T)} (h : Asc lo mid x) (h' : Asc mid hi y) (h1 : lo ≤ mid) (h2 : mid ≤ hi) : Asc lo hi (x ++ y) := by
  refine ⟨List.pairwise_append.mpr ⟨h.1, h'.1, fun a ha b hb => ?_⟩, fun z hz => ?_⟩
  · have := (h.2 a ha).2
    have := (h'.2 b hb).1
    omega
  · rcases List.mem_append.mp hz with hz | hz
    · have := h.2 z hz; omega
    · have := h'.2 z hz; omega
mutual
theorem T.grow_nodes : ∀ (t : T) (b : Nat) (s : Gs), t.ok → ∃ N, (t.grow b s).nodes = s.nodes ++ (b, t) :: N ∧ Asc (b + 1) (b + t.sz) N ∧ ∀ x ∈ N, ∃ y ∈ (b, t) :: N, Par y x.1
  | .node l ks, b, s, ho => by
    obtain ⟨N, h1, h2, h3⟩ := Ks.grow_nodes ks (b + 1) { s with nodes := s.nodes ++ [(b, .node l ks)] } ho.2.2
    refine ⟨N, by rw [T.grow, h1]; simp, ?_, fun x hx => ?_⟩
    · rw [T.sz, show b + (ks.sz + 1) = b + 1 + ks.sz by omega]
      exact h2
    · rcases h3 x hx with h | ⟨y, hy, hp⟩
      · exact ⟨(b, .node l ks), by simp, Ks.kid_at h (Ks.at_vec0 ho.2.1)⟩
      · exact ⟨y, by simp [hy], hp⟩
theorem Ks.grow_nodes : ∀ (ks : Ks) (b : Nat) (s : Gs), ks.ok → ∃ N, (ks.grow b s).nodes = s.nodes ++ N ∧ Asc b (b + ks.sz) N ∧ ∀ x ∈ N, ks.kid b x.1 ∨ ∃ y ∈ N, Par y x.1
  | .nil, b, s, _ => ⟨[], by simp [Ks.grow], ⟨List.Pairwise.nil, by simp⟩, by simp⟩
  | .cons c t ks, b, s, ho => by
    have hp := T.sz_pos t
    rw [Ks.grow, Ks.sz]
    split
    · obtain ⟨N, h1, h2, h3⟩ := Ks.grow_nodes ks (b + t.sz) { s with tops := s.tops ++ [(b, t)] } ho.2
      refine ⟨N, h1, ⟨h2.1, fun x hx => by have := h2.2 x hx; omega⟩, fun x hx => ?_⟩
      rcases h3 x hx with h | h
      · exact .inl (.inr h)
      · exact .inr h
    · obtain ⟨M, g1, g2, g3⟩ := T.grow_nodes t b { s with used := s.used + (t.own - 3) } ho.1
      obtain ⟨N, h1, h2, h3⟩ := Ks.grow_nodes ks (b + t.sz) (t.grow b { s with used := s.used + (t.own - 3) }) ho.2
      refine ⟨(b, t) :: M ++ N, by rw [h1, g1]; simp, ?_, fun x hx => ?_⟩
      · rw [← Nat.add_assoc]
        refine Asc.app (mid := b + t.sz) ⟨List.pairwise_cons.mpr ⟨fun y hy => ?_, g2.1⟩, fun y hy => ?_⟩ h2 (by omega) (by omega)
        · have := g2.2 y hy; show b < y.1; omega
        · rcases List.mem_cons.mp hy with rfl | hy
          · show b ≤ b ∧ b < b + t.sz; omega
          · have := g2.2 y hy; omega
      · rcases List.mem_append.mp hx with hx | hx
        · rcases List.mem_cons.mp hx with rfl | hx
          · exact .inl (.inl rfl)
          · obtain ⟨y, hy, hpar⟩ := g3 x hx
            exact .inr ⟨y, List.mem_append_left _ hy, hpar⟩
        · rcases h3 x hx with h | ⟨y, hy, hpar⟩
          · exact .inl (.inr h)
          · exact .inr ⟨y, List.mem_append_right _ hy, hpar⟩
end
theorem gr_nodes {t : T} {b : Nat} (ho : t.ok) : ∃ N, (gr t b).nodes = (b, t) :: N ∧ Asc (b + 1) (b + t.sz) N ∧ ∀ x ∈ N, ∃ y ∈ (b, t) :: N, Par y x.1 := by
  obtain ⟨N, h1, h2⟩ := T.grow_nodes t b ⟨[], t.own, []⟩ ho
  exact ⟨N, by unfold gr; rw [h1]; rfl, h2⟩
def shL (rc : T → Nat → Nat → List Plan) : List (Nat × T) → Nat → List Int × List Plan
  | [], _ => ([], [])
  | x :: r, nx => ((nx : Int) :: (shL rc r (nx + (rc x.2 x.1 nx).length)).1, rc x.2 x.1 nx ++ (shL rc r (nx + (rc x.2 x.1 nx).length)).2)
/-- The sheets of a tree that stands at b; the first is number me. -/
def shs (pp : List ByteArray) : Nat → T → Nat → Nat → List Plan
  | 0, _, _, _ => []
  | k + 1, t, b, me => ⟨tx pp b, (b : Int), ix (gr t b).nodes, (shL (shs pp k) (gr t b).tops (me + 1)).1⟩ :: (shL (shs pp k) (gr t b).tops (me + 1)).2
theorem shL_len {rc : T → Nat → Nat → List Plan} (h : ∀ t b me, (rc t b me).length ≤ t.sz) : ∀ (x : List (Nat × T)) (nx : Nat), (shL rc x nx).2.length ≤ szs x ∧ (shL rc x nx).1.length = x.length
  | [], nx => ⟨Nat.le_refl _, rfl⟩
  | x :: r, nx => by
    obtain ⟨h1, h2⟩ := shL_len h r (nx + (rc x.2 x.1 nx).length)
    have := h x.2 x.1 nx
    simp only [shL, List.length_append, List.length_cons, szs]
    omega
theorem gr_tops {t : T} {b : Nat} (ho : t.ok) : szs (gr t b).tops + 1 ≤ t.sz := by
  obtain ⟨h2, -, -⟩ := T.grow_sum t b ⟨[], t.own, []⟩
  obtain ⟨N, h1, -⟩ := gr_nodes (b := b) ho
  unfold gr at *
  rw [h1] at h2
  simp only [List.length_cons, List.length_nil, szs] at h2
  omega
theorem gr_sts {a : List Node} {t : T} {b : Nat} (hl : Lies a b t) (ho : t.ok) : Sts a (gr t b).nodes ∧ Sts a (gr t b).tops := T.grow_sts t b _ hl ho (by simp [Sts]) (by simp [Sts])
theorem shL_len' {rc : T → Nat → Nat → List Plan} {a : List Node} (h : ∀ t b me, t.ok → (rc t b me).length ≤ t.sz) : ∀ (x : List (Nat × T)) (nx : Nat), Sts a x → (shL rc x nx).2.length ≤ szs x ∧ (shL rc x nx).1.length = x.length
  | [], nx, _ => ⟨Nat.le_refl _, rfl⟩
  | x :: r, nx, hs => by
    obtain ⟨h1, h2⟩ := shL_len' h r (nx + (rc x.2 x.1 nx).length) (fun y hy => hs y (List.mem_cons_of_mem _ hy))
    have := h x.2 x.1 nx (hs x (List.mem_cons_self ..)).2
    simp only [shL, List.length_append, List.length_cons, szs]
    omega
end Go.Lf
