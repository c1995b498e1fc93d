import Derived.Test.YtckhmgglgbnaaaaU5
import Derived.Test.YtckhmgglgbnaaaaZT
import Derived.Test.YtckhmgglgbnaaaaZD
/- Plain facts: numbers that do not wrap, bytes as lists of numbers, loops with fuel. -/
set_option linter.unusedVariables false
set_option linter.unusedSimpArgs false
namespace Go.Lf
open Go

theorem w64_id {x : Int} (h : -9223372036854775808 ≤ x ∧ x < 9223372036854775808) : w64 x = x := by
 simp only [w64, IntKind.wrap, IntKind.bits, IntKind.signed, Bool.true_and]
 simp
 split <;> omega
/-- A text's bytes, as numbers. -/
def B (s : ByteArray) : List Nat := s.data.toList.map UInt8.toNat
theorem B_len (s : ByteArray) : (B s).length = s.size := by
 unfold B
 rw [List.length_map]
 rfl
theorem B_inj {s t : ByteArray} (h : B s = B t) : s = t := by
 obtain ⟨⟨s⟩⟩ := s
 obtain ⟨⟨t⟩⟩ := t
 simp only [B] at h
 have := (List.map_inj_right (fun x y h => UInt8.toNat_inj.mp h)).mp h
 rw [this]
theorem B_lt {s : ByteArray} {b : Nat} (h : b ∈ B s) : b < 256 := by
 simp only [B, List.mem_map] at h
 obtain ⟨x, -, rfl⟩ := h
 exact x.toNat_lt
theorem B_append (s t : ByteArray) : B (s ++ t) = B s ++ B t := by simp [B]
theorem bt_B (s : ByteArray) (i : Int) : bt s i = ((B s).getD i.toNat 0 : Nat) := by
 simp only [bt, B, List.getD_eq_getElem?_getD, List.getElem?_map]
 cases s.data.toList[i.toNat]? <;> simp
theorem B_sub (s : ByteArray) (i j : Int) : B (sub s i j) = ((B s).take j.toNat).drop i.toNat := by
 simp only [B, sub]
 rw [ByteArray.data_extract]
 simp [List.map_take, List.map_drop, Array.toList_extract, List.extract_eq_take_drop, List.drop_take]
theorem seq_B (s t : ByteArray) : seq_ s t = decide (s = t) := by
 unfold seq_
 rw [Bool.eq_iff_iff, beq_iff_eq, decide_eq_true_iff, ByteArray.toList_eq, ByteArray.toList_eq]
 obtain ⟨⟨s⟩⟩ := s
 obtain ⟨⟨t⟩⟩ := t
 simp
theorem B_strOfNums {l : List Int} (h : ∀ x ∈ l, 0 ≤ x ∧ x < 256) : B (strOfNums l) = l.map Int.toNat := by
 unfold B
 rw [strOfNums_data, List.map_map]
 apply List.map_congr_left
 intro x hx
 have := h x hx
 simp only [Function.comp, UInt8.toNat_ofNat']
 omega
/-- A text of given bytes. -/
def S (l : List Nat) : ByteArray := ⟨(l.map UInt8.ofNat).toArray⟩
theorem B_S {l : List Nat} (h : ∀ b ∈ l, b < 256) : B (S l) = l := by
 simp only [B, S, List.map_map]
 conv => rhs; rw [← List.map_id l]
 apply List.map_congr_left
 intro x hx
 have := h x hx
 simp only [Function.comp, UInt8.toNat_ofNat', id]
 omega
theorem vg_set {m : Nat} (v : Vector Int m) {i j : Nat} (x : Int) (hi : i < m) : vg (vset v (i : Int) x) (j : Int) = if i = j then x else vg v (j : Int) := by
 simp only [vg, vset, Int.toNat_natCast]
 rw [Vector.toList_setIfInBounds, List.getD_eq_getElem?_getD, List.getD_eq_getElem?_getD, List.getElem?_set]
 split
 ·subst_vars; simp [hi]
 ·rfl
theorem vg_zero {m : Nat} (j : Nat) : vg (Vector.replicate m 0 : Vector Int m) (j : Int) = 0 := by
 simp only [vg, Vector.toList_replicate, Int.toNat_natCast, List.getD_eq_getElem?_getD]
 rw [List.getElem?_replicate]
 split <;> simp
/-- How many numbers two lists begin with alike. -/
def comm : List Nat → List Nat → Nat
 | a :: x, b :: y => if a = b then comm x y + 1 else 0
 | _, _ => 0
theorem comm_le_left : ∀ x y : List Nat, comm x y ≤ x.length
 | [], _ => by simp [comm]
 | a :: x, [] => by simp [comm]
 | a :: x, b :: y => by
  have := comm_le_left x y
  unfold comm
  split <;> simp <;> omega
theorem comm_le_right : ∀ x y : List Nat, comm x y ≤ y.length
 | [], _ => by simp [comm]
 | a :: x, [] => by simp [comm]
 | a :: x, b :: y => by
  have := comm_le_right x y
  unfold comm
  split <;> simp <;> omega
theorem comm_take : ∀ x y : List Nat, x.take (comm x y) = y.take (comm x y)
 | [], _ => by simp [comm]
 | a :: x, [] => by simp [comm]
 | a :: x, b :: y => by
  unfold comm
  split
  ·subst_vars; simp [comm_take x y]
  ·simp
end Go.Lf
/- Tries as trees, and how they lie in a list of nodes, in preorder. -/
set_option linter.unusedVariables false
set_option linter.unusedSimpArgs false
namespace Go.Lf
open Go

structure Lab where
 kind : Int
 path : ByteArray
 has : Bool
 value : ByteArray
 deriving Inhabited
def Lab.node (l : Lab) (v : Vector Int 16) : Node := ⟨l.kind, l.path, l.has, l.value, v⟩
mutual
inductive T where
 | node (lab : Lab) (ks : Ks)
inductive Ks where
 | nil
 | cons (c : Nat) (t : T) (ks : Ks)
end
instance : Inhabited T := ⟨.node default .nil⟩
abbrev V16 := Vector Int 16
def v0 : V16 := Vector.replicate 16 0
mutual
def T.sz : T → Nat
 | .node _ ks => ks.sz + 1
def Ks.sz : Ks → Nat
 | .nil => 0
 | .cons _ t ks => t.sz + ks.sz
end
/-- The children's places: the first stands at b. -/
def Ks.vec : Ks → Nat → V16 → V16
 | .nil, _, v => v
 | .cons c t ks, b, v => ks.vec (b + t.sz) (vset v (c : Int) (b : Int))
mutual
def T.flat : T → Nat → List Node
 | .node l ks, b => l.node (ks.vec (b + 1) v0) :: ks.flat (b + 1)
def Ks.flat : Ks → Nat → List Node
 | .nil, _ => []
 | .cons _ t ks, b => t.flat b ++ ks.flat (b + t.sz)
end
mutual
theorem T.flat_len : ∀ (t : T) (b : Nat), (t.flat b).length = t.sz
 | .node l ks, b => by simp [T.flat, T.sz, Ks.flat_len ks]
theorem Ks.flat_len : ∀ (ks : Ks) (b : Nat), (ks.flat b).length = ks.sz
 | .nil, b => by simp [Ks.flat, Ks.sz]
 | .cons c t ks, b => by simp [Ks.flat, Ks.sz, T.flat_len t, Ks.flat_len ks]
end
theorem T.sz_pos : ∀ t : T, 0 < t.sz
 | .node l ks => by simp [T.sz]
/-- The slots rise, from c on, and are below 16. -/
def Ks.up : Ks → Nat → Prop
 | .nil, _ => True
 | .cons c t ks, m => m ≤ c ∧ c < 16 ∧ ks.up (c + 1)
theorem Ks.vec_below : ∀ {ks : Ks} {m b : Nat} {v : V16}, ks.up m → ∀ {j : Nat}, j < m → vg (ks.vec b v) (j : Int) = vg v (j : Int)
 | .nil, m, b, v, _, j, _ => rfl
 | .cons c t ks, m, b, v, h, j, hj => by
  rw [Ks.vec, Ks.vec_below h.2.2 (by have := h.1; omega), vg_set _ _ h.2.1, if_neg (by have := h.1; omega)]
theorem Ks.vec_head {c : Nat} {t : T} {ks : Ks} {m b : Nat} {v : V16} (h : (Ks.cons c t ks).up m) : vg ((Ks.cons c t ks).vec b v) (c : Int) = b := by
 rw [Ks.vec, Ks.vec_below h.2.2 (by omega), vg_set _ _ h.2.1, if_pos rfl]
/-- The slot c of the children that are left: none of them stands there, or the first does. -/
theorem Ks.slot {ks : Ks} {m b : Nat} {v : V16} (h : ks.up m) (hv : ∀ j, m ≤ j → vg v (j : Int) = 0) :
  (ks = .nil ∧ ∀ j, m ≤ j → vg (ks.vec b v) (j : Int) = 0) ∨ (∃ c t r, ks = .cons c t r ∧ m ≤ c ∧ c < 16 ∧ r.up (c + 1) ∧ vg (ks.vec b v) (c : Int) = b ∧ ∀ j, m ≤ j → j < c → vg (ks.vec b v) (j : Int) = 0) := by
 cases ks with
 | nil => exact .inl ⟨rfl, fun j hj => hv j hj⟩
 | cons c t r =>
  refine .inr ⟨c, t, r, rfl, h.1, h.2.1, h.2.2, Ks.vec_head h, fun j hj hc => ?_⟩
  rw [Ks.vec, Ks.vec_below h.2.2 (by omega), vg_set _ _ h.2.1, if_neg (by omega), hv j hj]
/-- The places of the children from a slot on are those of the children that are left. -/
def Ks.at : Ks → Nat → V16 → Nat → Prop   -- in v, from slot m on, just these stand, the first at b
 | .nil, _, v, m => ∀ j, m ≤ j → j < 16 → vg v (j : Int) = 0
 | .cons c t ks, b, v, m => m ≤ c ∧ c < 16 ∧ (∀ j, m ≤ j → j < c → vg v (j : Int) = 0) ∧ vg v (c : Int) = (b : Int) ∧ ks.at (b + t.sz) v (c + 1)
theorem Ks.at_vec : ∀ {ks : Ks} {m b : Nat} {v : V16}, ks.up m → (∀ j, m ≤ j → vg v (j : Int) = 0) → ks.at b (ks.vec b v) m
 | .nil, m, b, v, _, hv => fun j hj _ => hv j hj
 | .cons c t ks, m, b, v, h, hv => by
  have h1 := h.1
  have h2 := h.2.1
  refine ⟨h1, h2, fun j hj hc => ?_, Ks.vec_head h, ?_⟩
  ·rw [Ks.vec, Ks.vec_below h.2.2 (by omega), vg_set _ _ h2, if_neg (by omega), hv j hj]
  ·refine Ks.at_vec h.2.2 fun j hj => ?_
   rw [vg_set _ _ h2, if_neg (by omega), hv j (by omega)]
theorem Ks.at_vec0 {ks : Ks} {b : Nat} (h : ks.up 0) : ks.at b (ks.vec b v0) 0 := Ks.at_vec h fun j _ => vg_zero j
/-- One slot further. -/
theorem Ks.at_step {ks : Ks} {b m : Nat} {v : V16} (h : ks.at b v m) (hm : m < 16) :
  (vg v (m : Int) = 0 ∧ ks.at b v (m + 1)) ∨ (∃ t r, ks = .cons m t r ∧ vg v (m : Int) = (b : Int) ∧ r.at (b + t.sz) v (m + 1)) := by
 cases ks with
 | nil => exact .inl ⟨h m (Nat.le_refl _) hm, fun j hj h16 => h j (by omega) h16⟩
 | cons c t r =>
  obtain ⟨h1, h2, h3, h4, h5⟩ := h
  rcases Nat.lt_or_ge m c with hc | hc
  ·exact .inl ⟨h3 m (Nat.le_refl _) hc, by omega, h2, fun j hj hj' => h3 j (by omega) hj', h4, h5⟩
  ·have : m = c := by omega
   subst this
   exact .inr ⟨t, r, rfl, h4, h5⟩
mutual
/-- The texts that lead to the nodes, in preorder. -/
def T.paths : T → ByteArray → List ByteArray
 | .node l ks, p => p :: ks.paths (p ++ l.path) (l.kind == 3)
def Ks.paths : Ks → ByteArray → Bool → List ByteArray
 | .nil, _, _ => []
 | .cons c t ks, p, b => t.paths (if b then p ++ strOfNums [(c : Int)] else p) ++ ks.paths p b
end
mutual
theorem T.paths_len : ∀ (t : T) (p : ByteArray), (t.paths p).length = t.sz
 | .node l ks, p => by simp [T.paths, T.sz, Ks.paths_len ks]
theorem Ks.paths_len : ∀ (ks : Ks) (p : ByteArray) (b : Bool), (ks.paths p b).length = ks.sz
 | .nil, p, b => by simp [Ks.paths, Ks.sz]
 | .cons c t ks, p, b => by simp [Ks.paths, Ks.sz, T.paths_len t, Ks.paths_len ks]
end
end Go.Lf
/- The trie of sorted pairs, as a tree. -/
set_option linter.unusedVariables false
set_option linter.unusedSimpArgs false
namespace Go.Lf
open Go

/-- The first place from j on, of m, where p fails. -/
def runF (p : Nat → Bool) : Nat → Nat → Nat
 | 0, j => j
 | m + 1, j => if p j then runF p m (j + 1) else j
theorem runF_ge (p : Nat → Bool) : ∀ m j, j ≤ runF p m j
 | 0, j => Nat.le_refl _
 | m + 1, j => by
  unfold runF
  split
  ·have := runF_ge p m (j + 1); omega
  ·omega
theorem runF_le (p : Nat → Bool) : ∀ m j, runF p m j ≤ j + m
 | 0, j => Nat.le_refl _
 | m + 1, j => by
  unfold runF
  split
  ·have := runF_le p m (j + 1); omega
  ·omega
theorem runF_all (p : Nat → Bool) : ∀ m j i, j ≤ i → i < runF p m j → p i = true
 | 0, j, i, h, h' => by unfold runF at h'; omega
 | m + 1, j, i, h, h' => by
  unfold runF at h'
  split at h'
  ·rcases Nat.eq_or_lt_of_le h with rfl | h1
   ·assumption
   ·exact runF_all p m (j + 1) i h1 h'
  ·omega
theorem lex_mid : ∀ (c : Nat) {x y z : List Nat}, x < y → y < z → c ≤ x.length → c ≤ z.length → x.take c = z.take c → c ≤ y.length ∧ y.take c = x.take c
 | 0, _, _, _, _, _, _, _, _ => by simp
 | c + 1, [], _, _, _, _, h, _, _ => by simp at h
 | c + 1, _ :: _, _, [], _, _, _, h, _ => by simp at h
 | c + 1, a :: x, [], e :: z, h, _, _, _, _ => by simp at h
 | c + 1, a :: x, b :: y, e :: z, h1, h2, h3, h4, h5 => by
  simp only [List.cons_lt_cons_iff] at h1 h2
  simp only [List.take_succ_cons, List.cons.injEq] at h5
  simp only [List.length_cons, Nat.add_le_add_iff_right] at h3 h4
  obtain ⟨rfl, h5⟩ := h5
  have hab : a = b ∧ x < y ∧ y < z := by
   rcases h1 with h1 | ⟨rfl, h1⟩
   ·rcases h2 with h2 | ⟨rfl, h2⟩ <;> omega
   ·rcases h2 with h2 | ⟨-, h2⟩
    ·omega
    ·exact ⟨rfl, h1, h2⟩
  obtain ⟨rfl, h1, h2⟩ := hab
  obtain ⟨h6, h7⟩ := lex_mid c h1 h2 h3 h4 h5
  exact ⟨by simpa using h6, by simpa using h7⟩
theorem lex_at : ∀ (c : Nat) {x y : List Nat}, x < y → c ≤ x.length → x.take c = y.take c → c < y.length ∧ (c < x.length → x.getD c 0 ≤ y.getD c 0)
 | 0, [], [], h, _, _ => by simp at h
 | 0, [], b :: y, h, _, _ => by simp
 | 0, a :: x, [], h, _, _ => by simp at h
 | 0, a :: x, b :: y, h, _, _ => by
  simp only [List.cons_lt_cons_iff] at h
  simp
  omega
 | c + 1, [], _, _, h, _ => by simp at h
 | c + 1, a :: x, [], h, _, _ => by simp at h
 | c + 1, a :: x, b :: y, h, h3, h5 => by
  simp only [List.cons_lt_cons_iff] at h
  simp only [List.take_succ_cons, List.cons.injEq] at h5
  simp only [List.length_cons, Nat.add_le_add_iff_right] at h3
  obtain ⟨rfl, h5⟩ := h5
  rcases h with h | ⟨-, h⟩
  ·omega
  ·obtain ⟨h6, h7⟩ := lex_at c h h3 h5
   exact ⟨by simpa using h6, fun h8 => by simpa using h7 (by simpa using h8)⟩
theorem take_succ_eq {x y : List Nat} {c : Nat} (h : x.take c = y.take c) (hx : c < x.length) (hy : c < y.length) (e : x.getD c 0 = y.getD c 0) : x.take (c + 1) = y.take (c + 1) := by
 rw [List.take_add_one, List.take_add_one, h, List.getElem?_eq_getElem hx, List.getElem?_eq_getElem hy]
 simp only [List.getD_eq_getElem?_getD, List.getElem?_eq_getElem hx, List.getElem?_eq_getElem hy, Option.getD_some] at e
 rw [e]

def tx (n : List ByteArray) (i : Nat) : ByteArray := n.getD i default
def nb (n : List ByteArray) (i : Nat) : List Nat := B (tx n i)
def byteAt (n : List ByteArray) (i d : Nat) : Nat := (nb n i).getD d 0
def val (l : List Pair) (i : Nat) : ByteArray := (l.getD i default).value_
def run (n : List ByteArray) (d t i : Nat) : Nat := runF (fun j => byteAt n j d == byteAt n i d) (t - i) i
def mkKs (n : List ByteArray) (f : Nat → Nat → T) (d t : Nat) : Nat → Nat → Ks
 | 0, _ => .nil
 | m + 1, i => if i < t then .cons (byteAt n i d) (f i (run n d t i)) (mkKs n f d t m (run n d t i)) else .nil
def mk (n : List ByteArray) (l : List Pair) : Nat → Nat → Nat → Nat → T
 | 0, _, _, _ => default
 | k + 1, f, t, d =>
  if t = f + 1 then .node ⟨1, sub (tx n f) d (tx n f).size, true, val l f⟩ .nil
  else if 0 < comm ((nb n f).drop d) ((nb n (t - 1)).drop d) then
   .node ⟨2, sub (tx n f) d (d + comm ((nb n f).drop d) ((nb n (t - 1)).drop d) : Nat), false, ⟨#[]⟩⟩ (.cons 0 (mk n l k f t (d + comm ((nb n f).drop d) ((nb n (t - 1)).drop d))) .nil)
  else if (nb n f).length = d then .node ⟨3, ⟨#[]⟩, true, val l f⟩ (mkKs n (fun i j => mk n l k i j (d + 1)) d t (t - f) (f + 1))
  else .node ⟨3, ⟨#[]⟩, false, ⟨#[]⟩⟩ (mkKs n (fun i j => mk n l k i j (d + 1)) d t (t - f) f)

def Srt (n : List ByteArray) : Prop := ∀ i j, i < j → j < n.length → nb n i < nb n j
/-- The texts from f to t begin alike, up to d. -/
structure Rg (n : List ByteArray) (f t d : Nat) : Prop where
 lt : f < t
 le : t ≤ n.length
 long : ∀ i, f ≤ i → i < t → d ≤ (nb n i).length
 same : ∀ i, f ≤ i → i < t → (nb n i).take d = (nb n f).take d
variable {n : List ByteArray} {l : List Pair}
theorem Rg.comm (hs : Srt n) {f t d : Nat} (h : Rg n f t d) : Rg n f t (d + comm ((nb n f).drop d) ((nb n (t - 1)).drop d)) := by
 obtain ⟨h1, h2, h3, h4⟩ := h
 generalize hc : Lf.comm ((nb n f).drop d) ((nb n (t - 1)).drop d) = c
 have hl : d + c ≤ (nb n f).length := by
  have := comm_le_left ((nb n f).drop d) ((nb n (t - 1)).drop d)
  have := h3 f (Nat.le_refl _) h1
  simp at *
  omega
 have hl' : d + c ≤ (nb n (t - 1)).length := by
  have := comm_le_right ((nb n f).drop d) ((nb n (t - 1)).drop d)
  have := h3 (t - 1) (by omega) (by omega)
  simp at *
  omega
 have hx : (nb n f).take (d + c) = (nb n (t - 1)).take (d + c) := by
  have e := comm_take ((nb n f).drop d) ((nb n (t - 1)).drop d)
  rw [hc] at e
  rw [List.take_add, List.take_add, e, h4 (t - 1) (by omega) (by omega)]
 have key : ∀ i, f ≤ i → i < t → d + c ≤ (nb n i).length ∧ (nb n i).take (d + c) = (nb n f).take (d + c) := by
  intro i hi ht
  rcases Nat.eq_or_lt_of_le hi with rfl | hi'
  ·exact ⟨hl, rfl⟩
  ·rcases Nat.eq_or_lt_of_le (show i ≤ t - 1 by omega) with rfl | ht'
   ·exact ⟨hl', hx.symm⟩
   ·exact lex_mid (d + c) (hs f i hi' (by omega)) (hs i (t - 1) ht' (by omega)) hl hl' hx
 exact ⟨h1, h2, fun i a b => (key i a b).1, fun i a b => (key i a b).2⟩
/-- Where the first does not end at d, none does; where it does, the others go on. -/
theorem Rg.go (hs : Srt n) {f t d : Nat} (h : Rg n f t d) {i : Nat} (hi : f < i ∨ d < (nb n f).length ∧ f ≤ i) (ht : i < t) : d < (nb n i).length := by
 rcases Nat.lt_or_ge f i with hf | hf
 ·exact (lex_at d (hs f i hf (by have := h.le; omega)) (h.long f (Nat.le_refl _) h.lt) (h.same i (by omega) ht).symm).1
 ·rcases hi with hi | hi
  ·omega
  ·have : i = f := by omega
   subst this
   exact hi.1
theorem run_gt {d t i : Nat} (h : i < t) : i < run n d t i := by
 unfold run
 obtain ⟨m, hm⟩ : ∃ m, t - i = m + 1 := ⟨t - i - 1, by omega⟩
 rw [hm, runF, if_pos (by simp)]
 exact runF_ge _ _ _
theorem run_le {d t i : Nat} (h : i ≤ t) : run n d t i ≤ t := by
 have := runF_le (fun j => byteAt n j d == byteAt n i d) (t - i) i
 unfold run
 omega
/-- A run of texts with one number at d. -/
theorem Rg.run (hs : Srt n) {f t d : Nat} (h : Rg n f t d) {i : Nat} (hi : f < i ∨ d < (nb n f).length ∧ f ≤ i) (ht : i < t) : Rg n i (run n d t i) (d + 1) := by
 have hr := run_le (n := n) (d := d) (Nat.le_of_lt ht)
 have hg := run_gt (n := n) (d := d) ht
 have key : ∀ j, i ≤ j → j < Lf.run n d t i → d < (nb n j).length ∧ (nb n j).take (d + 1) = (nb n i).take (d + 1) := by
  intro j hij hj
  have hf : f ≤ i := by omega
  have e := runF_all _ _ _ j hij hj
  simp only [beq_iff_eq] at e
  have l1 := h.go hs (i := j) (by omega) (by omega)
  have l2 := h.go hs (i := i) hi ht
  exact ⟨l1, take_succ_eq (by rw [h.same j (by omega) (by omega), h.same i hf ht]) l1 l2 e⟩
 exact ⟨hg, by have := h.le; omega, fun j a b => (key j a b).1, fun j a b => (key j a b).2⟩
end Go.Lf
/- The two builders lay out the trie of the pairs. -/
set_option linter.unusedVariables false
set_option linter.unusedSimpArgs false
namespace Go.Lf
open Go

theorem w64_nat {x : Int} {k : Nat} (h : x = (k : Int)) (hk : k < 9223372036854775808) : w64 x = (k : Int) := by rw [h]; exact w64_id (by omega)
theorem bif_true {α : Type} {c : Bool} {x y : α} (h : c = true) : (bif c then x else y) = x := by rw [h]; rfl
theorem bif_false {α : Type} {c : Bool} {x y : α} (h : c = false) : (bif c then x else y) = y := by rw [h]; rfl
theorem bt_lt (s : ByteArray) (i : Nat) : bt s (i : Int) = (((B s).getD i 0 : Nat) : Int) := bt_B s i
/-- What the builders need of the texts. -/
structure In (n : List ByteArray) (l : List Pair) : Prop where
 srt : Srt n
 len : l.length = n.length
 few : n.length < 1000000
 nib : ∀ i, i < n.length → ∀ d, byteAt n i d < 16
 short : ∀ i, i < n.length → (nb n i).length ≤ 16
variable {n : List ByteArray} {l : List Pair}
end Go.Lf
/- The document's builder lays out the trie of the pairs, too. -/
set_option linter.unusedVariables false
set_option linter.unusedSimpArgs false
namespace Go.Lf
open Go
variable {n : List ByteArray} {l : List Pair}
/-- What leads to a text's place d. -/
def pre (n : List ByteArray) (i d : Nat) : ByteArray := sub (tx n i) 0 (d : Int)
end Go.Lf
/- Pairs that may be; their nibbles; their trie. -/
set_option linter.unusedVariables false
set_option linter.unusedSimpArgs false
namespace Go.Lf
open Go
def key (l : List Pair) (i : Nat) : ByteArray := (l.getD i default).key_
/-- Pair i may stand where it stands. -/
def MayI (l : List Pair) (i : Nat) : Prop := 1 ≤ (key l i).size ∧ (key l i).size ≤ 8 ∧ (val l i).size ≤ 16 ∧ (0 < i → B (key l (i - 1)) < B (key l i))
def MayP (l : List Pair) : Prop := ∀ i, i < l.length → MayI l i
/-- The nibbles of a text. -/
def nbl (x : List Nat) : List Nat := x.flatMap fun b => [b / 16, b % 16]
def nib (s : ByteArray) : ByteArray := S (nbl (B s))
theorem nbl_lt {x : List Nat} (h : ∀ b ∈ x, b < 256) : ∀ b ∈ nbl x, b < 16 := by
 intro b hb
 simp only [nbl, List.mem_flatMap] at hb
 obtain ⟨c, hc, hb⟩ := hb
 have := h c hc
 simp at hb
 omega
theorem B_nib (s : ByteArray) : B (nib s) = nbl (B s) := B_S fun b hb => by have := nbl_lt (fun b h => B_lt h) b hb; omega
theorem nbl_len : ∀ x : List Nat, (nbl x).length = 2 * x.length
 | [] => rfl
 | a :: x => by
  have := nbl_len x
  simp only [nbl, List.flatMap_cons, List.length_append, List.length_cons, List.length_nil] at *
  omega
end Go.Lf
/- The trie of pairs: what Build gives. -/
set_option linter.unusedVariables false
set_option linter.unusedSimpArgs false
namespace Go.Lf
open Go
theorem drop_cons {α : Type} {x : List α} {i : Nat} (d : α) (h : i < x.length) : x.drop i = x.getD i d :: x.drop (i + 1) := by
 rw [List.drop_eq_getElem_cons h]
 simp [List.getD_eq_getElem?_getD, List.getElem?_eq_getElem h]
theorem getB_lt {s : ByteArray} {i : Nat} (h : i < s.size) : (B s).getD i 0 < 256 := by
 have h' : i < (B s).length := by rw [B_len]; exact h
 rw [List.getD_eq_getElem?_getD, List.getElem?_eq_getElem h', Option.getD_some]
 exact B_lt (List.getElem_mem h')
theorem shr4 {b : Nat} (h : b < 256) : shr .u8 (b : Int) 4 = ((b / 16 : Nat) : Int) := by
 have : ∀ b : Fin 256, shr .u8 ((b.val : Nat) : Int) 4 = ((b.val / 16 : Nat) : Int) := by decide +kernel
 exact this ⟨b, h⟩
theorem and15 {b : Nat} (h : b < 256) : band .u8 (b : Int) 15 = ((b % 16 : Nat) : Int) := by
 have : ∀ b : Fin 256, band .u8 ((b.val : Nat) : Int) 15 = ((b.val % 16 : Nat) : Int) := by decide +kernel
 exact this ⟨b, h⟩
/-- The nibbles from byte i on, as the program's numbers. -/
def nbi (x : List Nat) : List Int := (nbl x).map fun b => ((b : Nat) : Int)
theorem nbi_cons (a : Nat) (x : List Nat) : nbi (a :: x) = [((a / 16 : Nat) : Int), ((a % 16 : Nat) : Int)] ++ nbi x := by simp [nbi, nbl]
theorem of_l0 {s : ByteArray} (hs : s.size < 1000000) : ∀ (fuel i : Nat) (a : List Int), s.size - i < fuel → a.length ≤ 2 * i → i ≤ s.size → nibble_Of.l0 s fuel (a, i) = some (a ++ nbi ((B s).drop i))
 | 0, i, a, h, _, _ => by omega
 | fuel + 1, i, a, h, ha, hi' => by
  rw [nibble_Of.l0]
  rcases Nat.lt_or_ge i s.size with hi | hi
  ·have g : 0 ≤ (i : Int) ∧ (i : Int) < (s.size : Int) := by omega
   have hb := getB_lt hi
   rw [bif_true (decide_eq_true g.2), gd_pos g, gd_pos g, gd_pos (by omega), w64_nat (x := (i : Int) + 1) (k := i + 1) (by simp) (by omega)]
   rw [of_l0 hs fuel (i + 1) _ (by omega) (by simp; omega) (by omega), drop_cons (x := B s) (i := i) 0 (by rw [B_len]; omega), nbi_cons, bt_lt, shr4 hb, and15 hb, List.append_assoc]
  ·rw [bif_false (decide_eq_false (by omega)), List.drop_eq_nil_of_le (by rw [B_len]; omega)]
   simp [nbi, nbl]
theorem str_nbi (s : ByteArray) : strOfNums (nbi (B s)) = nib s := by
 apply B_inj
 have hlt := nbl_lt (x := B s) (fun b h => B_lt h)
 rw [B_nib, B_strOfNums]
 ·simp [nbi, Function.comp_def]
 ·intro x hx
  simp only [nbi, List.mem_map] at hx
  obtain ⟨b, hb, rfl⟩ := hx
  have := hlt b hb
  omega
theorem of_ok {s : ByteArray} (hs : s.size < 1000000) : nibble_Of.f s = some (nib s) := by
 unfold nibble_Of.f
 rw [show (2 : Int) * (s.size : Int) = ((2 * s.size : Nat) : Int) by omega, w64_nat (k := 2 * s.size) rfl (by omega), gd_pos (by omega)]
 have h : nibble_Of.l0 s BIG (([] : List Int), 0) = some ([] ++ nbi ((B s).drop 0)) := of_l0 hs BIG 0 [] (by have := BIG_ge; omega) (by simp) (by omega)
 rw [h]
 simp [str_nbi]
/-- All pairs' nibbles. -/
def nibs (l : List Pair) : List ByteArray := l.map fun x => nib x.key_
/-- The trie of pairs, as a tree (where there are any). -/
def tre (l : List Pair) : T := mk (nibs l) l 17 0 l.length 0
def tri (l : List Pair) : List Node := if l = [] then [] else (tre l).flat 0
def trp (l : List Pair) : List ByteArray := if l = [] then [] else (tre l).paths ⟨#[]⟩
end Go.Lf
/- Nibbles packed into bytes. -/
set_option linter.unusedVariables false
set_option linter.unusedSimpArgs false
namespace Go.Lf
open Go
def pk : List Nat → List Nat
 | [] => []
 | [a] => [16 * a]
 | a :: b :: r => (16 * a + b) :: pk r
def Sml (x : ByteArray) : Prop := ∀ b ∈ B x, b < 16
def casts (x : List Nat) : List Int := x.map fun b => ((b : Nat) : Int)
/-- The packed bytes of a text of nibbles. -/
def pck (s : ByteArray) : ByteArray := S (pk (B s))
end Go.Lf
