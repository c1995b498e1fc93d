/- Tries as trees, and how they lie in a list of nodes, in preorder. -/
import Derived.Test.YtckhmgglgbnaaaaDoorM0
import Derived.Test.YtckhmgglgbnaaaaDoorZT
set_option linter.unusedVariables false
set_option linter.unusedSimpArgs false
namespace Go.Lf
open Go

structure Lab where
  kind : Int
  path : ByteArray
  has : Bool
  value : ByteArray
  deriving Inhabited
def Lab.node (l : Lab) (v : Vector Int 16) : Node := ⟨l.kind, l.path, l.has, l.value, v⟩
mutual
inductive T where
  | node (lab : Lab) (ks : Ks)
inductive Ks where
  | nil
  | cons (c : Nat) (t : T) (ks : Ks)
end
instance : Inhabited T := ⟨.node default .nil⟩
abbrev V16 := Vector Int 16
def v0 : V16 := Vector.replicate 16 0
mutual
def T.sz : T → Nat
  | .node _ ks => ks.sz + 1
def Ks.sz : Ks → Nat
  | .nil => 0
  | .cons _ t ks => t.sz + ks.sz
end
/-- The children's places: the first stands at b. -/
def Ks.vec : Ks → Nat → V16 → V16
  | .nil, _, v => v
  | .cons c t ks, b, v => ks.vec (b + t.sz) (vset v (c : Int) (b : Int))
mutual
def T.flat : T → Nat → List Node
  | .node l ks, b => l.node (ks.vec (b + 1) v0) :: ks.flat (b + 1)
def Ks.flat : Ks → Nat → List Node
  | .nil, _ => []
  | .cons _ t ks, b => t.flat b ++ ks.flat (b + t.sz)
end
mutual
theorem T.flat_len : ∀ (t : T) (b : Nat), (t.flat b).length = t.sz
  | .node l ks, b => by simp [T.flat, T.sz, Ks.flat_len ks]
theorem Ks.flat_len : ∀ (ks : Ks) (b : Nat), (ks.flat b).length = ks.sz
  | .nil, b => by simp [Ks.flat, Ks.sz]
  | .cons c t ks, b => by simp [Ks.flat, Ks.sz, T.flat_len t, Ks.flat_len ks]
end
theorem T.sz_pos : ∀ t : T, 0 < t.sz
  | .node l ks => by simp [T.sz]
/-- The slots rise, from c on, and are below 16. -/
def Ks.up : Ks → Nat → Prop
  | .nil, _ => True
  | .cons c t ks, m => m ≤ c ∧ c < 16 ∧ ks.up (c + 1)
theorem Ks.up_mono : ∀ {ks : Ks} {m n : Nat}, ks.up m → n ≤ m → ks.up n
  | .nil, _, _, _, _ => trivial
  | .cons c t ks, m, n, h, hn => ⟨Nat.le_trans hn h.1, h.2⟩
theorem Ks.vec_below : ∀ {ks : Ks} {m b : Nat} {v : V16}, ks.up m → ∀ {j : Nat}, j < m → vg (ks.vec b v) (j : Int) = vg v (j : Int)
  | .nil, m, b, v, _, j, _ => rfl
  | .cons c t ks, m, b, v, h, j, hj => by
    rw [Ks.vec, Ks.vec_below h.2.2 (by have := h.1; omega), vg_set _ _ h.2.1, if_neg (by have := h.1; omega)]
theorem Ks.vec_head {c : Nat} {t : T} {ks : Ks} {m b : Nat} {v : V16} (h : (Ks.cons c t ks).up m) : vg ((Ks.cons c t ks).vec b v) (c : Int) = b := by
  rw [Ks.vec, Ks.vec_below h.2.2 (by omega), vg_set _ _ h.2.1, if_pos rfl]
/-- The slot c of the children that are left: none of them stands there, or the first does. -/
theorem Ks.slot {ks : Ks} {m b : Nat} {v : V16} (h : ks.up m) (hv : ∀ j, m ≤ j → vg v (j : Int) = 0) :
    (ks = .nil ∧ ∀ j, m ≤ j → vg (ks.vec b v) (j : Int) = 0) ∨ (∃ c t r, ks = .cons c t r ∧ m ≤ c ∧ c < 16 ∧ r.up (c + 1) ∧ vg (ks.vec b v) (c : Int) = b ∧ ∀ j, m ≤ j → j < c → vg (ks.vec b v) (j : Int) = 0) := by
  cases ks with
  | nil => exact .inl ⟨rfl, fun j hj => hv j hj⟩
  | cons c t r =>
    refine .inr ⟨c, t, r, rfl, h.1, h.2.1, h.2.2, Ks.vec_head h, fun j hj hc => ?_⟩
    rw [Ks.vec, Ks.vec_below h.2.2 (by omega), vg_set _ _ h.2.1, if_neg (by omega), hv j hj]
/-- The places of the children from a slot on are those of the children that are left. -/
def Ks.at : Ks → Nat → V16 → Nat → Prop   -- in v, from slot m on, just these stand, the first at b
  | .nil, _, v, m => ∀ j, m ≤ j → j < 16 → vg v (j : Int) = 0
  | .cons c t ks, b, v, m => m ≤ c ∧ c < 16 ∧ (∀ j, m ≤ j → j < c → vg v (j : Int) = 0) ∧ vg v (c : Int) = (b : Int) ∧ ks.at (b + t.sz) v (c + 1)
theorem Ks.at_vec : ∀ {ks : Ks} {m b : Nat} {v : V16}, ks.up m → (∀ j, m ≤ j → vg v (j : Int) = 0) → ks.at b (ks.vec b v) m
  | .nil, m, b, v, _, hv => fun j hj _ => hv j hj
  | .cons c t ks, m, b, v, h, hv => by
    have h1 := h.1
    have h2 := h.2.1
    refine ⟨h1, h2, fun j hj hc => ?_, Ks.vec_head h, ?_⟩
    · rw [Ks.vec, Ks.vec_below h.2.2 (by omega), vg_set _ _ h2, if_neg (by omega), hv j hj]
    · refine Ks.at_vec h.2.2 fun j hj => ?_
      rw [vg_set _ _ h2, if_neg (by omega), hv j (by omega)]
theorem Ks.at_vec0 {ks : Ks} {b : Nat} (h : ks.up 0) : ks.at b (ks.vec b v0) 0 := Ks.at_vec h fun j _ => vg_zero j
/-- One slot further. -/
theorem Ks.at_step {ks : Ks} {b m : Nat} {v : V16} (h : ks.at b v m) (hm : m < 16) :
    (vg v (m : Int) = 0 ∧ ks.at b v (m + 1)) ∨ (∃ t r, ks = .cons m t r ∧ vg v (m : Int) = (b : Int) ∧ r.at (b + t.sz) v (m + 1)) := by
  cases ks with
  | nil => exact .inl ⟨h m (Nat.le_refl _) hm, fun j hj h16 => h j (by omega) h16⟩
  | cons c t r =>
    obtain ⟨h1, h2, h3, h4, h5⟩ := h
    rcases Nat.lt_or_ge m c with hc | hc
    · exact .inl ⟨h3 m (Nat.le_refl _) hc, by omega, h2, fun j hj hj' => h3 j (by omega) hj', h4, h5⟩
    · have : m = c := by omega
      subst this
      exact .inr ⟨t, r, rfl, h4, h5⟩
mutual
/-- The texts that lead to the nodes, in preorder. -/
def T.paths : T → ByteArray → List ByteArray
  | .node l ks, p => p :: ks.paths (p ++ l.path) (l.kind == 3)
def Ks.paths : Ks → ByteArray → Bool → List ByteArray
  | .nil, _, _ => []
  | .cons c t ks, p, b => t.paths (if b then p ++ strOfNums [(c : Int)] else p) ++ ks.paths p b
end
mutual
theorem T.paths_len : ∀ (t : T) (p : ByteArray), (t.paths p).length = t.sz
  | .node l ks, p => by simp [T.paths, T.sz, Ks.paths_len ks]
theorem Ks.paths_len : ∀ (ks : Ks) (p : ByteArray) (b : Bool), (ks.paths p b).length = ks.sz
  | .nil, p, b => by simp [Ks.paths, Ks.sz]
  | .cons c t ks, p, b => by simp [Ks.paths, Ks.sz, T.paths_len t, Ks.paths_len ks]
end
end Go.Lf
