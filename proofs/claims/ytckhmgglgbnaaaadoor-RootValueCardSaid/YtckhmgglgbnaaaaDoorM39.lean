/- Tries of the same keys are of one shape. -/
import Derived.Test.YtckhmgglgbnaaaaDoorM38
set_option linter.unusedVariables false
set_option linter.unusedSimpArgs false
namespace Go.Lf
open Go
def zs (_ : ByteArray) : ByteArray := ⟨#[]⟩
def Lab.bare (l : Lab) : Lab := { l with value := zs l.value }
mutual
/-- The tree without its values. -/
def T.bare : T → T
  | .node l ks => .node l.bare ks.bare
def Ks.bare : Ks → Ks
  | .nil => .nil
  | .cons c t ks => .cons c t.bare ks.bare
end
mutual
theorem T.bare_sz : ∀ t : T, t.bare.sz = t.sz
  | .node l ks => by simp [T.bare, T.sz, Ks.bare_sz ks]
theorem Ks.bare_sz : ∀ ks : Ks, ks.bare.sz = ks.sz
  | .nil => rfl
  | .cons c t ks => by simp [Ks.bare, Ks.sz, T.bare_sz t, Ks.bare_sz ks]
end
/-- The pair without its value. -/
def bp (x : Pair) : Pair := { x with value_ := zs x.value_ }
theorem val_bp (l : List Pair) (i : Nat) : val (l.map bp) i = zs (val l i) := by
  unfold val
  rw [List.getD_eq_getElem?_getD, List.getD_eq_getElem?_getD, List.getElem?_map]
  cases l[i]? <;> rfl
theorem mkKs_bare {n : List ByteArray} {g h : Nat → Nat → T} {d t : Nat} (hg : ∀ i j, (g i j).bare = h i j) : ∀ (m i : Nat), (mkKs n g d t m i).bare = mkKs n h d t m i
  | 0, i => rfl
  | m + 1, i => by
    unfold mkKs
    split
    · rw [Ks.bare, hg, mkKs_bare hg m]
    · rfl
theorem mk_bare (n : List ByteArray) (l : List Pair) : ∀ (k f t d : Nat), (mk n l k f t d).bare = mk n (l.map bp) k f t d
  | 0, _, _, _ => rfl
  | k + 1, f, t, d => by
    rw [mk, mk]
    split
    · rw [T.bare, Lab.bare, val_bp]
      rfl
    · split
      · rw [T.bare, Lab.bare, Ks.bare, mk_bare n l k]
        rfl
      · split
        · rw [T.bare, Lab.bare, val_bp, mkKs_bare (fun i j => mk_bare n l k i j (d + 1))]
        · rw [T.bare, Lab.bare, mkKs_bare (fun i j => mk_bare n l k i j (d + 1))]
          rfl
theorem nibs_bp (l : List Pair) : nibs (l.map bp) = nibs l := by simp [nibs, bp]
theorem tre_bare (l : List Pair) : (tre l).bare = tre (l.map bp) := by
  unfold tre
  rw [mk_bare, nibs_bp, List.length_map]
theorem key_bp (l : List Pair) (i : Nat) : key (l.map bp) i = key l i := by
  unfold key
  rw [List.getD_eq_getElem?_getD, List.getD_eq_getElem?_getD, List.getElem?_map]
  cases l[i]? <;> rfl
theorem near_bp {l : List Pair} {k : Nat} (hk : k < l.length) (v : ByteArray) : (l.set k { gt l (k : Int) with value_ := v }).map bp = l.map bp := by
  rw [List.map_set]
  apply List.ext_getElem?
  intro i
  rw [List.getElem?_set]
  split
  · rename_i h
    subst h
    rw [if_pos (by simpa using hk), List.getElem?_map, List.getElem?_eq_getElem hk, Option.map_some]
    have e : gt l (k : Int) = l[k] := by rw [gt_nat, List.getD_eq_getElem?_getD, List.getElem?_eq_getElem hk]; rfl
    rw [e]
    rfl
  · rfl
theorem val_set {l : List Pair} {k : Nat} (v : ByteArray) (j : Nat) (hj : j < l.length) : val (l.set k { gt l (k : Int) with value_ := v }) j = v ∨ val (l.set k { gt l (k : Int) with value_ := v }) j = val l j := by
  unfold val
  rw [List.getD_eq_getElem?_getD, List.getD_eq_getElem?_getD, List.getElem?_set]
  split
  · rename_i h
    rw [if_pos (by omega)]
    exact .inl rfl
  · exact .inr rfl
theorem may_set {l : List Pair} (hm : MayP l) {k : Nat} (hk : k < l.length) {v : ByteArray} (hv : v.size ≤ 16) : MayP (l.set k { gt l (k : Int) with value_ := v }) := fun i hi => by
  rw [List.length_set] at hi
  have hkey : ∀ j, key (l.set k { gt l (k : Int) with value_ := v }) j = key l j := fun j => by rw [← key_bp, near_bp hk v, key_bp]
  obtain ⟨h1, h2, h3, h4⟩ := hm i hi
  unfold MayI
  rw [hkey, hkey]
  refine ⟨h1, h2, ?_, h4⟩
  rcases val_set (l := l) (k := k) v i hi with e | e
  · rw [e]; exact hv
  · rw [e]; exact h3
mutual
/-- Of two trees of one shape and one hash: they are one, if at each place like hashes are like Items'. -/
theorem T.same2 : ∀ (u v : T), u.bare = v.bare → (∀ p ∈ u.trs.zip v.trs, p.1.hsh = p.2.hsh → p.1.item = p.2.item) → u.hsh = v.hsh → u = v
  | .node a ks, .node b ms, hb, hc, h => by
    have hitem := hc (.node a ks, .node b ms) (by simp [T.trs]) h
    simp only [T.item, Item.mk.injEq] at hitem
    obtain ⟨i1, i2, i3, i4, i5, i6⟩ := hitem
    simp only [T.bare, T.node.injEq] at hb
    have hks := Ks.same2 ks ms hb.2 (fun p hp => hc p (by rw [T.trs, T.trs, List.zip_cons_cons]; exact List.mem_cons_of_mem _ hp)) i6
    rw [hks, lab_ext i1 i2 i3 i4]
theorem Ks.same2 : ∀ (ks ms : Ks), ks.bare = ms.bare → (∀ p ∈ ks.trs.zip ms.trs, p.1.hsh = p.2.hsh → p.1.item = p.2.item) → ks.hshs = ms.hshs → ks = ms
  | .nil, .nil, _, _, _ => rfl
  | .nil, .cons d v ms, hb, _, _ => by simp [Ks.bare] at hb
  | .cons c u ks, .nil, hb, _, _ => by simp [Ks.bare] at hb
  | .cons c u ks, .cons d v ms, hb, hc, h => by
    simp only [Ks.bare, Ks.cons.injEq] at hb
    obtain ⟨rfl, b1, b2⟩ := hb
    rw [Ks.hshs, Ks.hshs] at h
    simp only [List.cons.injEq] at h
    have hlen : u.trs.length = v.trs.length := by rw [T.trs_len, T.trs_len, ← T.bare_sz u, b1, T.bare_sz]
    rw [Ks.trs, Ks.trs, List.zip_append hlen] at hc
    rw [T.same2 u v b1 (fun p hp => hc p (List.mem_append_left _ hp)) h.1, Ks.same2 ks ms b2 (fun p hp => hc p (List.mem_append_right _ hp)) h.2]
end
end Go.Lf
