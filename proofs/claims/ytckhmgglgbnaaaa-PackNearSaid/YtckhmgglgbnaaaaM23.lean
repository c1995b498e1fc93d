/- The sheets hang on the values' sizes alone. -/
import Derived.Test.YtckhmgglgbnaaaaM14
set_option linter.unusedVariables false
set_option linter.unusedSimpArgs false
namespace Go.Lf
open Go
def zs (s : ByteArray) : ByteArray := ⟨Array.replicate s.size 0⟩
theorem zs_size (s : ByteArray) : (zs s).size = s.size := by
  unfold zs
  show (Array.replicate s.size (0 : UInt8)).size = s.size
  exact Array.size_replicate
theorem zs_eq {s t : ByteArray} (h : s.size = t.size) : zs s = zs t := by unfold zs; rw [h]
def Lab.bare (l : Lab) : Lab := { l with value := zs l.value }
mutual
/-- The tree with zeros for its values. -/
def T.bare : T → T
  | .node l ks => .node l.bare ks.bare
def Ks.bare : Ks → Ks
  | .nil => .nil
  | .cons c t ks => .cons c t.bare ks.bare
end
mutual
theorem T.bare_sz : ∀ t : T, t.bare.sz = t.sz
  | .node l ks => by simp [T.bare, T.sz, Ks.bare_sz ks]
theorem Ks.bare_sz : ∀ ks : Ks, ks.bare.sz = ks.sz
  | .nil => rfl
  | .cons c t ks => by simp [Ks.bare, Ks.sz, T.bare_sz t, Ks.bare_sz ks]
end
theorem Ks.bare_cnt : ∀ ks : Ks, ks.bare.cnt = ks.cnt
  | .nil => rfl
  | .cons c t ks => by simp [Ks.bare, Ks.cnt, Ks.bare_cnt ks]
theorem T.bare_own : ∀ t : T, t.bare.own = t.own
  | .node l ks => by simp [T.bare, T.own, Lab.bare, zs_size, Ks.bare_cnt]
mutual
theorem T.bare_paths : ∀ (t : T) (p : ByteArray), t.bare.paths p = t.paths p
  | .node l ks, p => by simp [T.bare, T.paths, Lab.bare, Ks.bare_paths ks]
theorem Ks.bare_paths : ∀ (ks : Ks) (p : ByteArray) (b : Bool), ks.bare.paths p b = ks.paths p b
  | .nil, p, b => rfl
  | .cons c t ks, p, b => by simp [Ks.bare, Ks.paths, T.bare_paths t, Ks.bare_paths ks]
end
def mp (X : List (Nat × T)) : List (Nat × T) := X.map fun y => (y.1, y.2.bare)
def Gs.bare (s : Gs) : Gs := ⟨mp s.nodes, s.used, mp s.tops⟩
mutual
theorem T.bare_grow : ∀ (t : T) (b : Nat) (s : Gs), t.bare.grow b s.bare = (t.grow b s).bare
  | .node l ks, b, s => by
    rw [T.bare, T.grow, T.grow, ← Ks.bare_grow ks (b + 1) { s with nodes := s.nodes ++ [(b, .node l ks)] }]
    simp [Gs.bare, mp, T.bare]
theorem Ks.bare_grow : ∀ (ks : Ks) (b : Nat) (s : Gs), ks.bare.grow b s.bare = (ks.grow b s).bare
  | .nil, b, s => rfl
  | .cons c t ks, b, s => by
    have hu : s.bare.used = s.used := rfl
    rw [Ks.bare, Ks.grow, Ks.grow, T.bare_sz, T.bare_own, hu]
    split
    · rw [← Ks.bare_grow]
      congr 1
      simp [Gs.bare, mp]
    · rw [← Ks.bare_grow, ← T.bare_grow]
      rfl
end
theorem bare_gr (t : T) (b : Nat) : gr t.bare b = (gr t b).bare := by
  unfold gr
  rw [T.bare_own]
  exact T.bare_grow t b ⟨[], t.own, []⟩
theorem ix_mp (X : List (Nat × T)) : ix (mp X) = ix X := by simp [ix, mp]
theorem shL_mp {rc : T → Nat → Nat → List Plan} : ∀ (x : List (Nat × T)) (nx : Nat), (∀ y ∈ x, ∀ me, rc y.2.bare y.1 me = rc y.2 y.1 me) → shL rc (mp x) nx = shL rc x nx
  | [], nx, _ => rfl
  | y :: x, nx, h => by
    have h1 := h y (List.mem_cons_self ..) nx
    have h2 := shL_mp x (nx + (rc y.2 y.1 nx).length) (fun z hz => h z (List.mem_cons_of_mem _ hz))
    show shL rc ((y.1, y.2.bare) :: mp x) nx = _
    simp only [shL, h1, h2]
theorem shs_bare (pp : List ByteArray) : ∀ (k : Nat) (t : T) (b me : Nat), shs pp k t.bare b me = shs pp k t b me
  | 0, _, _, _ => rfl
  | k + 1, t, b, me => by
    have e1 : (gr t b).bare.nodes = mp (gr t b).nodes := rfl
    have e2 : (gr t b).bare.tops = mp (gr t b).tops := rfl
    simp only [shs]
    rw [bare_gr, e1, e2, ix_mp, shL_mp _ _ (fun y _ me => shs_bare pp k y.2 y.1 me)]
/-- The pair with zeros for its value. -/
def bp (x : Pair) : Pair := { x with value_ := zs x.value_ }
theorem val_bp (l : List Pair) (i : Nat) : val (l.map bp) i = zs (val l i) := by
  unfold val
  rw [List.getD_eq_getElem?_getD, List.getD_eq_getElem?_getD, List.getElem?_map]
  cases l[i]? <;> rfl
theorem mkKs_bare {n : List ByteArray} {g h : Nat → Nat → T} {d t : Nat} (hg : ∀ i j, (g i j).bare = h i j) : ∀ (m i : Nat), (mkKs n g d t m i).bare = mkKs n h d t m i
  | 0, i => rfl
  | m + 1, i => by
    unfold mkKs
    split
    · rw [Ks.bare, hg, mkKs_bare hg m]
    · rfl
theorem mk_bare (n : List ByteArray) (l : List Pair) : ∀ (k f t d : Nat), (mk n l k f t d).bare = mk n (l.map bp) k f t d
  | 0, _, _, _ => rfl
  | k + 1, f, t, d => by
    rw [mk, mk]
    split
    · rw [T.bare, Lab.bare, val_bp]
      rfl
    · split
      · rw [T.bare, Lab.bare, Ks.bare, mk_bare n l k]
        rfl
      · split
        · rw [T.bare, Lab.bare, val_bp, mkKs_bare (fun i j => mk_bare n l k i j (d + 1))]
        · rw [T.bare, Lab.bare, mkKs_bare (fun i j => mk_bare n l k i j (d + 1))]
          rfl
theorem nibs_bp (l : List Pair) : nibs (l.map bp) = nibs l := by simp [nibs, bp]
theorem tre_bare (l : List Pair) : (tre l).bare = tre (l.map bp) := by
  unfold tre
  rw [mk_bare, nibs_bp, List.length_map]
theorem sheets_bp (l : List Pair) : sheets (l.map bp) = sheets l := by
  by_cases he : l = []
  · subst he; rfl
  · have he' : l.map bp ≠ [] := by simpa using he
    unfold sheets trp
    rw [if_neg he, if_neg he', if_neg he, if_neg he', ← tre_bare, T.bare_paths, T.bare_sz, shs_bare]
/-- With values of the same sizes the sheets are the same. -/
theorem sheets_near {l m : List Pair} (h : l.map bp = m.map bp) : sheets l = sheets m := by rw [← sheets_bp l, h, sheets_bp]
end Go.Lf
