import Derived.Test.YtckhmgglgbnaaaaGreatDoorU5
import Derived.Test.YtckhmgglgbnaaaaGreatDoorZT
import Derived.Test.YtckhmgglgbnaaaaGreatDoorZD
/- Plain facts: numbers that do not wrap, bytes as lists of numbers, loops with fuel. -/
set_option linter.unusedVariables false
set_option linter.unusedSimpArgs false
namespace Go.Lf
open Go

theorem w64_id {x : Int} (h : -9223372036854775808 ≤ x ∧ x < 9223372036854775808) : w64 x = x := by
 simp only [w64, IntKind.wrap, IntKind.bits, IntKind.signed, Bool.true_and]
 simp
 split <;> omega
theorem wu8_id {x : Int} (h : 0 ≤ x ∧ x < 256) : wu8 x = x := by
 simp only [wu8, IntKind.wrap, IntKind.bits, IntKind.signed]
 simp
 omega
/-- A text's bytes, as numbers. -/
def B (s : ByteArray) : List Nat := s.data.toList.map UInt8.toNat
theorem B_len (s : ByteArray) : (B s).length = s.size := by
 unfold B
 rw [List.length_map]
 rfl
theorem B_inj {s t : ByteArray} (h : B s = B t) : s = t := by
 obtain ⟨⟨s⟩⟩ := s
 obtain ⟨⟨t⟩⟩ := t
 simp only [B] at h
 have := (List.map_inj_right (fun x y h => UInt8.toNat_inj.mp h)).mp h
 rw [this]
theorem B_eq {s t : ByteArray} : s = t ↔ B s = B t := ⟨fun h => by rw [h], B_inj⟩
theorem B_lt {s : ByteArray} {b : Nat} (h : b ∈ B s) : b < 256 := by
 simp only [B, List.mem_map] at h
 obtain ⟨x, -, rfl⟩ := h
 exact x.toNat_lt
theorem B_empty : B (⟨#[]⟩ : ByteArray) = [] := rfl
theorem B_append (s t : ByteArray) : B (s ++ t) = B s ++ B t := by simp [B]
theorem bt_B (s : ByteArray) (i : Int) : bt s i = ((B s).getD i.toNat 0 : Nat) := by
 simp only [bt, B, List.getD_eq_getElem?_getD, List.getElem?_map]
 cases s.data.toList[i.toNat]? <;> simp
theorem B_sub (s : ByteArray) (i j : Int) : B (sub s i j) = ((B s).take j.toNat).drop i.toNat := by
 simp only [B, sub]
 rw [ByteArray.data_extract]
 simp [List.map_take, List.map_drop, Array.toList_extract, List.extract_eq_take_drop, List.drop_take]
theorem seq_B (s t : ByteArray) : seq_ s t = decide (s = t) := by
 unfold seq_
 rw [Bool.eq_iff_iff, beq_iff_eq, decide_eq_true_iff, ByteArray.toList_eq, ByteArray.toList_eq]
 obtain ⟨⟨s⟩⟩ := s
 obtain ⟨⟨t⟩⟩ := t
 simp
theorem bytesLess_B : ∀ (x y : List UInt8), Op.bytesLess x y = decide (x.map UInt8.toNat < y.map UInt8.toNat)
 | x, [] => by simp [Op.bytesLess]
 | [], _ :: _ => by simp [Op.bytesLess]
 | a :: x, b :: y => by
  rw [Op.bytesLess, bytesLess_B x y, Bool.eq_iff_iff]
  simp only [Bool.or_eq_true, Bool.and_eq_true, decide_eq_true_eq, beq_iff_eq, List.map_cons, List.cons_lt_cons_iff, UInt8.lt_iff_toNat_lt]
  constructor
  ·rintro (h | ⟨rfl, h⟩)
   ·exact .inl h
   ·exact .inr ⟨rfl, h⟩
  ·rintro (h | ⟨h, h'⟩)
   ·exact .inl h
   ·exact .inr ⟨UInt8.toNat_inj.mp h, h'⟩
theorem slt_B (s t : ByteArray) : slt s t = decide (B s < B t) := by
 unfold slt B
 rw [ByteArray.toList_eq, ByteArray.toList_eq, bytesLess_B]
theorem B_strOfNums {l : List Int} (h : ∀ x ∈ l, 0 ≤ x ∧ x < 256) : B (strOfNums l) = l.map Int.toNat := by
 unfold B
 rw [strOfNums_data, List.map_map]
 apply List.map_congr_left
 intro x hx
 have := h x hx
 simp only [Function.comp, UInt8.toNat_ofNat']
 omega
/-- A text of given bytes. -/
def S (l : List Nat) : ByteArray := ⟨(l.map UInt8.ofNat).toArray⟩
theorem B_S {l : List Nat} (h : ∀ b ∈ l, b < 256) : B (S l) = l := by
 simp only [B, S, List.map_map]
 conv => rhs; rw [← List.map_id l]
 apply List.map_congr_left
 intro x hx
 have := h x hx
 simp only [Function.comp, UInt8.toNat_ofNat', id]
 omega
theorem gt_nat {α : Type} [Inhabited α] (xs : List α) (i : Nat) : gt xs (i : Int) = xs.getD i default := rfl
theorem vg_nat {m : Nat} (v : Vector Int m) (i : Nat) : vg v (i : Int) = v.toList.getD i 0 := rfl
theorem vg_set {m : Nat} (v : Vector Int m) {i j : Nat} (x : Int) (hi : i < m) : vg (vset v (i : Int) x) (j : Int) = if i = j then x else vg v (j : Int) := by
 simp only [vg, vset, Int.toNat_natCast]
 rw [Vector.toList_setIfInBounds, List.getD_eq_getElem?_getD, List.getD_eq_getElem?_getD, List.getElem?_set]
 split
 ·subst_vars; simp [hi]
 ·rfl
theorem vg_zero {m : Nat} (j : Nat) : vg (Vector.replicate m 0 : Vector Int m) (j : Int) = 0 := by
 simp only [vg, Vector.toList_replicate, Int.toNat_natCast, List.getD_eq_getElem?_getD]
 rw [List.getElem?_replicate]
 split <;> simp
/-- How many numbers two lists begin with alike. -/
def comm : List Nat → List Nat → Nat
 | a :: x, b :: y => if a = b then comm x y + 1 else 0
 | _, _ => 0
theorem comm_le_left : ∀ x y : List Nat, comm x y ≤ x.length
 | [], _ => by simp [comm]
 | a :: x, [] => by simp [comm]
 | a :: x, b :: y => by
  have := comm_le_left x y
  unfold comm
  split <;> simp <;> omega
theorem comm_le_right : ∀ x y : List Nat, comm x y ≤ y.length
 | [], _ => by simp [comm]
 | a :: x, [] => by simp [comm]
 | a :: x, b :: y => by
  have := comm_le_right x y
  unfold comm
  split <;> simp <;> omega
theorem comm_take : ∀ x y : List Nat, x.take (comm x y) = y.take (comm x y)
 | [], _ => by simp [comm]
 | a :: x, [] => by simp [comm]
 | a :: x, b :: y => by
  unfold comm
  split
  ·subst_vars; simp [comm_take x y]
  ·simp
end Go.Lf
/- Tries as trees, and how they lie in a list of nodes, in preorder. -/
set_option linter.unusedVariables false
set_option linter.unusedSimpArgs false
namespace Go.Lf
open Go

structure Lab where
 kind : Int
 path : ByteArray
 has : Bool
 value : ByteArray
 deriving Inhabited
def Lab.node (l : Lab) (v : Vector Int 16) : Node := ⟨l.kind, l.path, l.has, l.value, v⟩
mutual
inductive T where
 | node (lab : Lab) (ks : Ks)
inductive Ks where
 | nil
 | cons (c : Nat) (t : T) (ks : Ks)
end
instance : Inhabited T := ⟨.node default .nil⟩
abbrev V16 := Vector Int 16
def v0 : V16 := Vector.replicate 16 0
mutual
def T.sz : T → Nat
 | .node _ ks => ks.sz + 1
def Ks.sz : Ks → Nat
 | .nil => 0
 | .cons _ t ks => t.sz + ks.sz
end
/-- The children's places: the first stands at b. -/
def Ks.vec : Ks → Nat → V16 → V16
 | .nil, _, v => v
 | .cons c t ks, b, v => ks.vec (b + t.sz) (vset v (c : Int) (b : Int))
mutual
def T.flat : T → Nat → List Node
 | .node l ks, b => l.node (ks.vec (b + 1) v0) :: ks.flat (b + 1)
def Ks.flat : Ks → Nat → List Node
 | .nil, _ => []
 | .cons _ t ks, b => t.flat b ++ ks.flat (b + t.sz)
end
mutual
theorem T.flat_len : ∀ (t : T) (b : Nat), (t.flat b).length = t.sz
 | .node l ks, b => by simp [T.flat, T.sz, Ks.flat_len ks]
theorem Ks.flat_len : ∀ (ks : Ks) (b : Nat), (ks.flat b).length = ks.sz
 | .nil, b => by simp [Ks.flat, Ks.sz]
 | .cons c t ks, b => by simp [Ks.flat, Ks.sz, T.flat_len t, Ks.flat_len ks]
end
theorem T.sz_pos : ∀ t : T, 0 < t.sz
 | .node l ks => by simp [T.sz]
/-- The slots rise, from c on, and are below 16. -/
def Ks.up : Ks → Nat → Prop
 | .nil, _ => True
 | .cons c t ks, m => m ≤ c ∧ c < 16 ∧ ks.up (c + 1)
theorem Ks.vec_below : ∀ {ks : Ks} {m b : Nat} {v : V16}, ks.up m → ∀ {j : Nat}, j < m → vg (ks.vec b v) (j : Int) = vg v (j : Int)
 | .nil, m, b, v, _, j, _ => rfl
 | .cons c t ks, m, b, v, h, j, hj => by
  rw [Ks.vec, Ks.vec_below h.2.2 (by have := h.1; omega), vg_set _ _ h.2.1, if_neg (by have := h.1; omega)]
theorem Ks.vec_head {c : Nat} {t : T} {ks : Ks} {m b : Nat} {v : V16} (h : (Ks.cons c t ks).up m) : vg ((Ks.cons c t ks).vec b v) (c : Int) = b := by
 rw [Ks.vec, Ks.vec_below h.2.2 (by omega), vg_set _ _ h.2.1, if_pos rfl]
/-- The slot c of the children that are left: none of them stands there, or the first does. -/
theorem Ks.slot {ks : Ks} {m b : Nat} {v : V16} (h : ks.up m) (hv : ∀ j, m ≤ j → vg v (j : Int) = 0) :
  (ks = .nil ∧ ∀ j, m ≤ j → vg (ks.vec b v) (j : Int) = 0) ∨ (∃ c t r, ks = .cons c t r ∧ m ≤ c ∧ c < 16 ∧ r.up (c + 1) ∧ vg (ks.vec b v) (c : Int) = b ∧ ∀ j, m ≤ j → j < c → vg (ks.vec b v) (j : Int) = 0) := by
 cases ks with
 | nil => exact .inl ⟨rfl, fun j hj => hv j hj⟩
 | cons c t r =>
  refine .inr ⟨c, t, r, rfl, h.1, h.2.1, h.2.2, Ks.vec_head h, fun j hj hc => ?_⟩
  rw [Ks.vec, Ks.vec_below h.2.2 (by omega), vg_set _ _ h.2.1, if_neg (by omega), hv j hj]
/-- The places of the children from a slot on are those of the children that are left. -/
def Ks.at : Ks → Nat → V16 → Nat → Prop   -- in v, from slot m on, just these stand, the first at b
 | .nil, _, v, m => ∀ j, m ≤ j → j < 16 → vg v (j : Int) = 0
 | .cons c t ks, b, v, m => m ≤ c ∧ c < 16 ∧ (∀ j, m ≤ j → j < c → vg v (j : Int) = 0) ∧ vg v (c : Int) = (b : Int) ∧ ks.at (b + t.sz) v (c + 1)
theorem Ks.at_vec : ∀ {ks : Ks} {m b : Nat} {v : V16}, ks.up m → (∀ j, m ≤ j → vg v (j : Int) = 0) → ks.at b (ks.vec b v) m
 | .nil, m, b, v, _, hv => fun j hj _ => hv j hj
 | .cons c t ks, m, b, v, h, hv => by
  have h1 := h.1
  have h2 := h.2.1
  refine ⟨h1, h2, fun j hj hc => ?_, Ks.vec_head h, ?_⟩
  ·rw [Ks.vec, Ks.vec_below h.2.2 (by omega), vg_set _ _ h2, if_neg (by omega), hv j hj]
  ·refine Ks.at_vec h.2.2 fun j hj => ?_
   rw [vg_set _ _ h2, if_neg (by omega), hv j (by omega)]
theorem Ks.at_vec0 {ks : Ks} {b : Nat} (h : ks.up 0) : ks.at b (ks.vec b v0) 0 := Ks.at_vec h fun j _ => vg_zero j
/-- One slot further. -/
theorem Ks.at_step {ks : Ks} {b m : Nat} {v : V16} (h : ks.at b v m) (hm : m < 16) :
  (vg v (m : Int) = 0 ∧ ks.at b v (m + 1)) ∨ (∃ t r, ks = .cons m t r ∧ vg v (m : Int) = (b : Int) ∧ r.at (b + t.sz) v (m + 1)) := by
 cases ks with
 | nil => exact .inl ⟨h m (Nat.le_refl _) hm, fun j hj h16 => h j (by omega) h16⟩
 | cons c t r =>
  obtain ⟨h1, h2, h3, h4, h5⟩ := h
  rcases Nat.lt_or_ge m c with hc | hc
  ·exact .inl ⟨h3 m (Nat.le_refl _) hc, by omega, h2, fun j hj hj' => h3 j (by omega) hj', h4, h5⟩
  ·have : m = c := by omega
   subst this
   exact .inr ⟨t, r, rfl, h4, h5⟩
mutual
/-- The texts that lead to the nodes, in preorder. -/
def T.paths : T → ByteArray → List ByteArray
 | .node l ks, p => p :: ks.paths (p ++ l.path) (l.kind == 3)
def Ks.paths : Ks → ByteArray → Bool → List ByteArray
 | .nil, _, _ => []
 | .cons c t ks, p, b => t.paths (if b then p ++ strOfNums [(c : Int)] else p) ++ ks.paths p b
end
mutual
theorem T.paths_len : ∀ (t : T) (p : ByteArray), (t.paths p).length = t.sz
 | .node l ks, p => by simp [T.paths, T.sz, Ks.paths_len ks]
theorem Ks.paths_len : ∀ (ks : Ks) (p : ByteArray) (b : Bool), (ks.paths p b).length = ks.sz
 | .nil, p, b => by simp [Ks.paths, Ks.sz]
 | .cons c t ks, p, b => by simp [Ks.paths, Ks.sz, T.paths_len t, Ks.paths_len ks]
end
end Go.Lf
/- The trie of sorted pairs, as a tree. -/
set_option linter.unusedVariables false
set_option linter.unusedSimpArgs false
namespace Go.Lf
open Go

/-- The first place from j on, of m, where p fails. -/
def runF (p : Nat → Bool) : Nat → Nat → Nat
 | 0, j => j
 | m + 1, j => if p j then runF p m (j + 1) else j
theorem runF_ge (p : Nat → Bool) : ∀ m j, j ≤ runF p m j
 | 0, j => Nat.le_refl _
 | m + 1, j => by
  unfold runF
  split
  ·have := runF_ge p m (j + 1); omega
  ·omega
theorem runF_le (p : Nat → Bool) : ∀ m j, runF p m j ≤ j + m
 | 0, j => Nat.le_refl _
 | m + 1, j => by
  unfold runF
  split
  ·have := runF_le p m (j + 1); omega
  ·omega
theorem runF_all (p : Nat → Bool) : ∀ m j i, j ≤ i → i < runF p m j → p i = true
 | 0, j, i, h, h' => by unfold runF at h'; omega
 | m + 1, j, i, h, h' => by
  unfold runF at h'
  split at h'
  ·rcases Nat.eq_or_lt_of_le h with rfl | h1
   ·assumption
   ·exact runF_all p m (j + 1) i h1 h'
  ·omega
theorem runF_end (p : Nat → Bool) : ∀ m j, runF p m j < j + m → p (runF p m j) = false
 | 0, j, h => by unfold runF at h; omega
 | m + 1, j, h => by
  unfold runF at h ⊢
  split
  ·rename_i e
   rw [if_pos e] at h
   exact runF_end p m (j + 1) (by omega)
  ·simpa using ‹¬ p j = true›

theorem lex_mid : ∀ (c : Nat) {x y z : List Nat}, x < y → y < z → c ≤ x.length → c ≤ z.length → x.take c = z.take c → c ≤ y.length ∧ y.take c = x.take c
 | 0, _, _, _, _, _, _, _, _ => by simp
 | c + 1, [], _, _, _, _, h, _, _ => by simp at h
 | c + 1, _ :: _, _, [], _, _, _, h, _ => by simp at h
 | c + 1, a :: x, [], e :: z, h, _, _, _, _ => by simp at h
 | c + 1, a :: x, b :: y, e :: z, h1, h2, h3, h4, h5 => by
  simp only [List.cons_lt_cons_iff] at h1 h2
  simp only [List.take_succ_cons, List.cons.injEq] at h5
  simp only [List.length_cons, Nat.add_le_add_iff_right] at h3 h4
  obtain ⟨rfl, h5⟩ := h5
  have hab : a = b ∧ x < y ∧ y < z := by
   rcases h1 with h1 | ⟨rfl, h1⟩
   ·rcases h2 with h2 | ⟨rfl, h2⟩ <;> omega
   ·rcases h2 with h2 | ⟨-, h2⟩
    ·omega
    ·exact ⟨rfl, h1, h2⟩
  obtain ⟨rfl, h1, h2⟩ := hab
  obtain ⟨h6, h7⟩ := lex_mid c h1 h2 h3 h4 h5
  exact ⟨by simpa using h6, by simpa using h7⟩
theorem lex_at : ∀ (c : Nat) {x y : List Nat}, x < y → c ≤ x.length → x.take c = y.take c → c < y.length ∧ (c < x.length → x.getD c 0 ≤ y.getD c 0)
 | 0, [], [], h, _, _ => by simp at h
 | 0, [], b :: y, h, _, _ => by simp
 | 0, a :: x, [], h, _, _ => by simp at h
 | 0, a :: x, b :: y, h, _, _ => by
  simp only [List.cons_lt_cons_iff] at h
  simp
  omega
 | c + 1, [], _, _, h, _ => by simp at h
 | c + 1, a :: x, [], h, _, _ => by simp at h
 | c + 1, a :: x, b :: y, h, h3, h5 => by
  simp only [List.cons_lt_cons_iff] at h
  simp only [List.take_succ_cons, List.cons.injEq] at h5
  simp only [List.length_cons, Nat.add_le_add_iff_right] at h3
  obtain ⟨rfl, h5⟩ := h5
  rcases h with h | ⟨-, h⟩
  ·omega
  ·obtain ⟨h6, h7⟩ := lex_at c h h3 h5
   exact ⟨by simpa using h6, fun h8 => by simpa using h7 (by simpa using h8)⟩
theorem take_succ_eq {x y : List Nat} {c : Nat} (h : x.take c = y.take c) (hx : c < x.length) (hy : c < y.length) (e : x.getD c 0 = y.getD c 0) : x.take (c + 1) = y.take (c + 1) := by
 rw [List.take_add_one, List.take_add_one, h, List.getElem?_eq_getElem hx, List.getElem?_eq_getElem hy]
 simp only [List.getD_eq_getElem?_getD, List.getElem?_eq_getElem hx, List.getElem?_eq_getElem hy, Option.getD_some] at e
 rw [e]

def tx (n : List ByteArray) (i : Nat) : ByteArray := n.getD i default
def nb (n : List ByteArray) (i : Nat) : List Nat := B (tx n i)
def byteAt (n : List ByteArray) (i d : Nat) : Nat := (nb n i).getD d 0
def val (l : List Pair) (i : Nat) : ByteArray := (l.getD i default).value_
def run (n : List ByteArray) (d t i : Nat) : Nat := runF (fun j => byteAt n j d == byteAt n i d) (t - i) i
def mkKs (n : List ByteArray) (f : Nat → Nat → T) (d t : Nat) : Nat → Nat → Ks
 | 0, _ => .nil
 | m + 1, i => if i < t then .cons (byteAt n i d) (f i (run n d t i)) (mkKs n f d t m (run n d t i)) else .nil
def mk (n : List ByteArray) (l : List Pair) : Nat → Nat → Nat → Nat → T
 | 0, _, _, _ => default
 | k + 1, f, t, d =>
  if t = f + 1 then .node ⟨1, sub (tx n f) d (tx n f).size, true, val l f⟩ .nil
  else if 0 < comm ((nb n f).drop d) ((nb n (t - 1)).drop d) then
   .node ⟨2, sub (tx n f) d (d + comm ((nb n f).drop d) ((nb n (t - 1)).drop d) : Nat), false, ⟨#[]⟩⟩ (.cons 0 (mk n l k f t (d + comm ((nb n f).drop d) ((nb n (t - 1)).drop d))) .nil)
  else if (nb n f).length = d then .node ⟨3, ⟨#[]⟩, true, val l f⟩ (mkKs n (fun i j => mk n l k i j (d + 1)) d t (t - f) (f + 1))
  else .node ⟨3, ⟨#[]⟩, false, ⟨#[]⟩⟩ (mkKs n (fun i j => mk n l k i j (d + 1)) d t (t - f) f)

def Srt (n : List ByteArray) : Prop := ∀ i j, i < j → j < n.length → nb n i < nb n j
/-- The texts from f to t begin alike, up to d. -/
structure Rg (n : List ByteArray) (f t d : Nat) : Prop where
 lt : f < t
 le : t ≤ n.length
 long : ∀ i, f ≤ i → i < t → d ≤ (nb n i).length
 same : ∀ i, f ≤ i → i < t → (nb n i).take d = (nb n f).take d
variable {n : List ByteArray} {l : List Pair}
theorem Rg.comm (hs : Srt n) {f t d : Nat} (h : Rg n f t d) : Rg n f t (d + comm ((nb n f).drop d) ((nb n (t - 1)).drop d)) := by
 obtain ⟨h1, h2, h3, h4⟩ := h
 generalize hc : Lf.comm ((nb n f).drop d) ((nb n (t - 1)).drop d) = c
 have hl : d + c ≤ (nb n f).length := by
  have := comm_le_left ((nb n f).drop d) ((nb n (t - 1)).drop d)
  have := h3 f (Nat.le_refl _) h1
  simp at *
  omega
 have hl' : d + c ≤ (nb n (t - 1)).length := by
  have := comm_le_right ((nb n f).drop d) ((nb n (t - 1)).drop d)
  have := h3 (t - 1) (by omega) (by omega)
  simp at *
  omega
 have hx : (nb n f).take (d + c) = (nb n (t - 1)).take (d + c) := by
  have e := comm_take ((nb n f).drop d) ((nb n (t - 1)).drop d)
  rw [hc] at e
  rw [List.take_add, List.take_add, e, h4 (t - 1) (by omega) (by omega)]
 have key : ∀ i, f ≤ i → i < t → d + c ≤ (nb n i).length ∧ (nb n i).take (d + c) = (nb n f).take (d + c) := by
  intro i hi ht
  rcases Nat.eq_or_lt_of_le hi with rfl | hi'
  ·exact ⟨hl, rfl⟩
  ·rcases Nat.eq_or_lt_of_le (show i ≤ t - 1 by omega) with rfl | ht'
   ·exact ⟨hl', hx.symm⟩
   ·exact lex_mid (d + c) (hs f i hi' (by omega)) (hs i (t - 1) ht' (by omega)) hl hl' hx
 exact ⟨h1, h2, fun i a b => (key i a b).1, fun i a b => (key i a b).2⟩
/-- Where the first does not end at d, none does; where it does, the others go on. -/
theorem Rg.go (hs : Srt n) {f t d : Nat} (h : Rg n f t d) {i : Nat} (hi : f < i ∨ d < (nb n f).length ∧ f ≤ i) (ht : i < t) : d < (nb n i).length := by
 rcases Nat.lt_or_ge f i with hf | hf
 ·exact (lex_at d (hs f i hf (by have := h.le; omega)) (h.long f (Nat.le_refl _) h.lt) (h.same i (by omega) ht).symm).1
 ·rcases hi with hi | hi
  ·omega
  ·have : i = f := by omega
   subst this
   exact hi.1
theorem run_gt {d t i : Nat} (h : i < t) : i < run n d t i := by
 unfold run
 obtain ⟨m, hm⟩ : ∃ m, t - i = m + 1 := ⟨t - i - 1, by omega⟩
 rw [hm, runF, if_pos (by simp)]
 exact runF_ge _ _ _
theorem run_le {d t i : Nat} (h : i ≤ t) : run n d t i ≤ t := by
 have := runF_le (fun j => byteAt n j d == byteAt n i d) (t - i) i
 unfold run
 omega
/-- A run of texts with one number at d. -/
theorem Rg.run (hs : Srt n) {f t d : Nat} (h : Rg n f t d) {i : Nat} (hi : f < i ∨ d < (nb n f).length ∧ f ≤ i) (ht : i < t) : Rg n i (run n d t i) (d + 1) := by
 have hr := run_le (n := n) (d := d) (Nat.le_of_lt ht)
 have hg := run_gt (n := n) (d := d) ht
 have key : ∀ j, i ≤ j → j < Lf.run n d t i → d < (nb n j).length ∧ (nb n j).take (d + 1) = (nb n i).take (d + 1) := by
  intro j hij hj
  have hf : f ≤ i := by omega
  have e := runF_all _ _ _ j hij hj
  simp only [beq_iff_eq] at e
  have l1 := h.go hs (i := j) (by omega) (by omega)
  have l2 := h.go hs (i := i) hi ht
  exact ⟨l1, take_succ_eq (by rw [h.same j (by omega) (by omega), h.same i hf ht]) l1 l2 e⟩
 exact ⟨hg, by have := h.le; omega, fun j a b => (key j a b).1, fun j a b => (key j a b).2⟩
theorem byte_le (hs : Srt n) {f t d : Nat} (h : Rg n f t d) {i j : Nat} (hi : f < i ∨ d < (nb n f).length ∧ f ≤ i) (hij : i < j) (hj : j < t) : byteAt n i d ≤ byteAt n j d := by
 have hf : f ≤ i := by omega
 exact (lex_at d (hs i j hij (by have := h.le; omega)) (h.long i hf (by omega)) (by rw [h.same i hf (by omega), h.same j (by omega) hj])).2 (h.go hs hi (by omega))
/-- The next run's number is greater. -/
theorem run_next (hs : Srt n) {f t d : Nat} (h : Rg n f t d) {i : Nat} (hi : f < i ∨ d < (nb n f).length ∧ f ≤ i) (ht : i < t) (hr : run n d t i < t) : byteAt n i d < byteAt n (run n d t i) d := by
 have hg := run_gt (n := n) (d := d) ht
 have h1 := byte_le hs h hi hg hr
 have h2 := runF_end (fun j => byteAt n j d == byteAt n i d) (t - i) i (by have := hr; unfold run at this; omega)
 simp only [beq_eq_false_iff_ne, ne_eq] at h2
 have h3 : byteAt n (run n d t i) d ≠ byteAt n i d := h2
 omega
theorem mkKs_up (hs : Srt n) {f t d : Nat} (h : Rg n f t d) (g : Nat → Nat → T) (hb : ∀ i, i < t → byteAt n i d < 16) : ∀ (m i : Nat), (f < i ∨ d < (nb n f).length ∧ f ≤ i) → ∀ c, (i < t → c ≤ byteAt n i d) → (mkKs n g d t m i).up c
 | 0, i, hi, c, hc => trivial
 | m + 1, i, hi, c, hc => by
  unfold mkKs
  split
  ·rename_i ht
   refine ⟨hc ht, hb i ht, mkKs_up hs h g hb m _ ?_ _ fun hr => run_next hs h hi ht hr⟩
   have := run_gt (n := n) (d := d) ht
   left; omega
  ·trivial
end Go.Lf
/- The two builders lay out the trie of the pairs. -/
set_option linter.unusedVariables false
set_option linter.unusedSimpArgs false
namespace Go.Lf
open Go

theorem w64_nat {x : Int} {k : Nat} (h : x = (k : Int)) (hk : k < 9223372036854775808) : w64 x = (k : Int) := by rw [h]; exact w64_id (by omega)
theorem bif_true {α : Type} {c : Bool} {x y : α} (h : c = true) : (bif c then x else y) = x := by rw [h]; rfl
theorem bif_false {α : Type} {c : Bool} {x y : α} (h : c = false) : (bif c then x else y) = y := by rw [h]; rfl
theorem tx_gt (n : List ByteArray) (i : Nat) : gt n (i : Int) = tx n i := rfl
theorem size_nb (n : List ByteArray) (i : Nat) : (tx n i).size = (nb n i).length := (B_len _).symm
theorem bt_byte (n : List ByteArray) (i d : Nat) : bt (tx n i) (d : Int) = (byteAt n i d : Int) := by rw [bt_B]; rfl
theorem nat_beq {x y : Nat} : ((x : Int) == (y : Int)) = (x == y) := by rw [Bool.eq_iff_iff]; simp; omega

theorem branch_l1 {n : List ByteArray} {t d i : Nat} (ht : t ≤ n.length) (hn : n.length < 1000000) (hl : ∀ j, i ≤ j → j < t → d < (nb n j).length) : ∀ (fuel j : Nat), t - j < fuel → i ≤ j → j ≤ t → trie_builder_branch.l1 n t d i fuel j = some ((runF (fun j => byteAt n j d == byteAt n i d) (t - j) j : Nat) : Int)
 | 0, j, h, _, _ => by omega
 | fuel + 1, j, h, hij, hjt => by
  rw [trie_builder_branch.l1]
  rcases Nat.lt_or_ge j t with hj | hj
  ·have h1 := hl j hij hj
   rw [bif_true (by simp; omega), gd_pos (by constructor <;> omega), gd_pos (by rw [tx_gt, size_nb]; constructor <;> omega)]
   simp only [Option.bind_some, tx_gt, bt_byte, nat_beq]
   rw [show t - j = (t - (j + 1)) + 1 by omega, runF]
   cases hc : (byteAt n j d == byteAt n i d)
   ·simp
   ·rw [bif_true rfl, w64_nat (k := j + 1) (by simp) (by omega), branch_l1 ht hn hl fuel (j + 1) (by omega) (by omega) (by omega)]
    simp
  ·rw [bif_false (by simp; omega)]
   have : t - j = 0 := by omega
   simp [this, runF]

theorem bt_lt (s : ByteArray) (i : Nat) : bt s (i : Int) = (((B s).getD i 0 : Nat) : Int) := bt_B s i
theorem comm_drop {x y : List Nat} {i : Nat} (hx : i < x.length) (hy : i < y.length) : comm (x.drop i) (y.drop i) = if x.getD i 0 = y.getD i 0 then comm (x.drop (i + 1)) (y.drop (i + 1)) + 1 else 0 := by
 rw [List.drop_eq_getElem_cons hx, List.drop_eq_getElem_cons hy, comm]
 simp [List.getD_eq_getElem?_getD, List.getElem?_eq_getElem hx, List.getElem?_eq_getElem hy]
theorem comm_end {x y : List Nat} {i : Nat} (h : x.length ≤ i ∨ y.length ≤ i) : comm (x.drop i) (y.drop i) = 0 := by
 rcases h with h | h
 ·rw [List.drop_eq_nil_of_le h]; simp [comm]
 ·rw [List.drop_eq_nil_of_le h]
  cases x.drop i <;> simp [comm]
theorem common_l0 {x y : ByteArray} (hx : x.size < 1000000) : ∀ (fuel i : Nat), x.size - i < fuel → nibble_Common.l0 x y fuel i = some ((i + comm ((B x).drop i) ((B y).drop i) : Nat) : Int)
 | 0, i, h => by omega
 | fuel + 1, i, h => by
  rw [nibble_Common.l0]
  by_cases hi : i < x.size ∧ i < y.size
  ·rw [bif_true (by simp; split <;> omega), gd_pos (by omega), gd_pos (by omega)]
   simp only [Option.bind_some, bt_lt, nat_beq]
   rw [comm_drop (by rw [B_len]; omega) (by rw [B_len]; omega)]
   cases hc : ((B x).getD i 0 == (B y).getD i 0)
   ·rw [if_neg (by simpa using hc)]
    simp
   ·rw [if_pos (by simpa using hc), bif_true rfl, w64_nat (k := i + 1) (by simp) (by omega), common_l0 hx fuel (i + 1) (by omega)]
    congr 2
    omega
  ·rw [bif_false (by simp; split <;> omega)]
   simp only [Option.bind_some]
   rw [bif_false rfl, comm_end (by rw [B_len, B_len]; omega)]
   simp
theorem common_ok {x y : ByteArray} (hx : x.size < 1000000) : nibble_Common.f x y = some ((comm (B x) (B y) : Nat) : Int) := by
 unfold nibble_Common.f
 have h : nibble_Common.l0 x y BIG 0 = some ((0 + comm ((B x).drop 0) ((B y).drop 0) : Nat) : Int) := common_l0 (y := y) hx BIG 0 (by have := BIG_ge; omega)
 rw [h]
 simp
theorem sub_tail (s : ByteArray) (d : Nat) : B (sub s (d : Int) (s.size : Int)) = (B s).drop d := by
 rw [B_sub]
 simp only [Int.toNat_natCast, List.drop_take]
 rw [List.take_of_length_le]
 simp [B_len]
theorem sub_size (s : ByteArray) (d e : Nat) (h : e ≤ s.size) : (sub s (d : Int) (e : Int)).size = e - d := by
 rw [← B_len, B_sub]
 simp only [Int.toNat_natCast, List.length_drop, List.length_take, B_len]
 omega
/-- What the builders need of the texts. -/
structure In (n : List ByteArray) (l : List Pair) : Prop where
 srt : Srt n
 len : l.length = n.length
 few : n.length < 1000000
 nib : ∀ i, i < n.length → ∀ d, byteAt n i d < 16
 short : ∀ i, i < n.length → (nb n i).length ≤ 16
variable {n : List ByteArray} {l : List Pair}
theorem mkKs_sz {g : Nat → Nat → T} {k d t : Nat} (hg : ∀ i j, i < j → (g i j).sz ≤ k * (j - i)) : ∀ m i, (mkKs n g d t m i).sz ≤ k * (t - i)
 | 0, i => by simp [mkKs, Ks.sz]
 | m + 1, i => by
  unfold mkKs
  split
  ·rename_i h
   have h1 := run_gt (n := n) (d := d) h
   have h2 := run_le (n := n) (d := d) (Nat.le_of_lt h)
   have h3 := hg i _ h1
   have h4 := mkKs_sz (d := d) (t := t) hg m (run n d t i)
   simp only [Ks.sz]
   have : k * (t - i) = k * (run n d t i - i) + k * (t - run n d t i) := by rw [← Nat.mul_add]; congr 1; omega
   omega
  ·simp [Ks.sz]
theorem mk_sz : ∀ (k f t d : Nat), f < t → (mk n l k f t d).sz ≤ (k + 1) * (t - f)
 | 0, f, t, d, h => by
  have : (mk n l 0 f t d).sz = 1 := rfl
  omega
 | k + 1, f, t, d, h => by
  have e : (k + 1 + 1) * (t - f) = (k + 1) * (t - f) + (t - f) := by rw [Nat.add_mul, Nat.one_mul]
  unfold mk
  split
  ·simp [T.sz, Ks.sz]; omega
  ·split
   ·have := mk_sz k f t (d + comm ((nb n f).drop d) ((nb n (t - 1)).drop d)) h
    simp only [T.sz, Ks.sz]
    omega
   ·have hh := fun i j hij => mk_sz k i j (d + 1) hij
    split
    ·have := mkKs_sz (n := n) (d := d) (t := t) hh (t - f) (f + 1)
     have h2 : (k + 1) * (t - (f + 1)) ≤ (k + 1) * (t - f) := Nat.mul_le_mul_left _ (by omega)
     simp only [T.sz]
     omega
    ·have := mkKs_sz (n := n) (d := d) (t := t) hh (t - f) f
     simp only [T.sz]
     omega

theorem bt_tx (n : List ByteArray) (i d : Nat) : bt (gt n (i : Int)) (d : Int) = (byteAt n i d : Int) := bt_byte n i d
theorem branch_l0 (hI : In n l) {f t d k : Nat} (hR : Rg n f t d) {rc : List Pair → List ByteArray → List Node → Int → Int → Int → Option (Int × List Node)}
  (hrec : ∀ (i j : Nat) (tt : List Node), Rg n i j (d + 1) → tt.length + (k + 1) * (j - i) ≤ 1000000000 → rc l n tt i j ((d + 1 : Nat) : Int) = some ((tt.length : Int), tt ++ (mk n l k i j (d + 1)).flat tt.length)) :
  ∀ (m i fuel : Nat) (tt : List Node) (v : V16), t - i ≤ m → t - i < fuel → (f < i ∨ d < (nb n f).length ∧ f ≤ i) → i ≤ t → tt.length + (k + 1) * (t - i) ≤ 1000000000 →
   trie_builder_branch.l0 l n t d rc fuel (tt, v, i) = some (tt ++ (mkKs n (fun i j => mk n l k i j (d + 1)) d t m i).flat tt.length, (mkKs n (fun i j => mk n l k i j (d + 1)) d t m i).vec tt.length v)
 | m, i, 0, tt, v, hm, hfu, hi, hit, hsz => by omega
 | m, i, fuel + 1, tt, v, hm, hfu, hi, hit, hsz => by
  have hle := hR.le
  have hfew := hI.few
  rw [trie_builder_branch.l0]
  rcases Nat.lt_or_ge i t with ht | ht
  ·obtain ⟨m, rfl⟩ : ∃ m', m = m' + 1 := ⟨m - 1, by omega⟩
   have h1 := hR.go hI.srt hi ht
   have hs := hI.short i (by omega)
   have hb := hI.nib i (by omega) d
   have hgt := run_gt (n := n) (d := d) ht
   have hrl := run_le (n := n) (d := d) (Nat.le_of_lt ht)
   rw [bif_true (by simp; omega), gd_pos (by constructor <;> omega), gd_pos (by rw [tx_gt, size_nb]; constructor <;> omega)]
   rw [branch_l1 hle hfew (fun j h2 h3 => hR.go hI.srt (i := j) (by omega) h3) BIG i (by have := BIG_ge; omega) (Nat.le_refl _) hit]
   simp only [Option.bind_some]
   rw [w64_nat (k := d + 1) (by simp) (by omega)]
   have e : ((runF (fun j => byteAt n j d == byteAt n i d) (t - i) i : Nat) : Int) = (run n d t i : Nat) := rfl
   have hmul : (k + 1) * (t - i) = (k + 1) * (run n d t i - i) + (k + 1) * (t - run n d t i) := by rw [← Nat.mul_add]; congr 1; omega
   rw [e, hrec i _ tt (hR.run hI.srt hi ht) (by omega)]
   simp only [Option.bind_some, bt_tx]
   rw [gd_pos (by constructor <;> omega)]
   have hsz2 := mk_sz (n := n) (l := l) k i (run n d t i) (d + 1) hgt
   rw [branch_l0 hI hR hrec m (run n d t i) fuel _ _ (by omega) (by omega) (by omega) hrl (by simp only [List.length_append, T.flat_len]; omega)]
   rw [mkKs, if_pos ht]
   simp only [Ks.flat, Ks.vec, List.length_append, T.flat_len, List.append_assoc]
  ·rw [bif_false (by simp; omega)]
   have : mkKs n (fun i j => mk n l k i j (d + 1)) d t m i = .nil := by
    cases m with
    | zero => rfl
    | succ m => rw [mkKs, if_neg (by omega)]
   rw [this]
   simp [Ks.flat, Ks.vec]
theorem set_end {α : Type} (tt r : List α) (x y : α) : (tt ++ x :: r).set ((tt.length : Int)).toNat y = tt ++ y :: r := by
 simp
theorem build_ok (hI : In n l) : ∀ (k f t d kk : Nat) (tt : List Node), Rg n f t d → 17 ≤ d + k → 2 * k ≤ kk → tt.length + (k + 1) * (t - f) ≤ 1000000000 →
  trie_builder_build.f kk l n tt f t d = some ((tt.length : Int), tt ++ (mk n l k f t d).flat tt.length)
 | 0, f, t, d, kk, tt, hR, hd, _, _ => by
  have := hI.short f (by have := hR.lt; have := hR.le; omega)
  have := hR.long f (Nat.le_refl _) hR.lt
  omega
 | k + 1, f, t, d, 0, tt, hR, hd, hk, _ => by omega
 | k + 1, f, t, d, 1, tt, hR, hd, hk, _ => by omega
 | k + 1, f, t, d, kk + 2, tt, hR, hd, hk, hsz => by
  have hlt := hR.lt
  have hle := hR.le
  have hfew := hI.few
  have hlen := hI.len
  have hsh := hI.short f (by omega)
  have hsh2 := hI.short (t - 1) (by omega)
  have hlo := hR.long f (Nat.le_refl _) hlt
  have hlo2 := hR.long (t - 1) (by omega) (by omega)
  rw [trie_builder_build.f]
  have hmul : (k + 1 + 1) * (t - f) = (k + 1) * (t - f) + (t - f) := by rw [Nat.add_mul, Nat.one_mul]
  rw [gd_pos (by omega), gd_pos (by constructor <;> omega), gd_pos (by rw [tx_gt, size_nb]; constructor <;> omega)]
  rw [show ((t : Int) - (f : Int)) = ((t - f : Nat) : Int) by omega, w64_nat (k := t - f) rfl (by omega)]
  by_cases h1 : t = f + 1
  ·rw [bif_true (by simp; omega), gd_pos (by constructor <;> omega), gd_pos (by simp; omega), set_end, mk, if_pos h1]
   simp [T.flat, Ks.flat, Ks.vec, Lab.node, tx_gt, gt_nat, val, v0, tx]
  ·rw [bif_false (by simp; omega), show ((t : Int) - 1) = ((t - 1 : Nat) : Int) by omega, w64_nat (k := t - 1) rfl (by omega), gd_pos (by constructor <;> omega), gd_pos (by rw [tx_gt, size_nb]; constructor <;> omega)]
   rw [common_ok (by rw [tx_gt, sub_size _ _ _ (Nat.le_refl _), size_nb]; omega)]
   rw [Option.bind_some, mk, if_neg h1]
   have hcl := comm_le_left ((nb n f).drop d) ((nb n (t - 1)).drop d)
   simp only [List.length_drop] at hcl
   have e1 : comm (B (sub (gt n (f : Int)) (d : Int) ((gt n (f : Int)).size : Int))) (B (sub (gt n ((t - 1 : Nat) : Int)) (d : Int) ((gt n ((t - 1 : Nat) : Int)).size : Int))) = comm ((nb n f).drop d) ((nb n (t - 1)).drop d) := by rw [tx_gt, tx_gt, sub_tail, sub_tail]; rfl
   rw [e1]
   by_cases h2 : 0 < comm ((nb n f).drop d) ((nb n (t - 1)).drop d)
   ·have hR2 := hR.comm hI.srt
    generalize hc : comm ((nb n f).drop d) ((nb n (t - 1)).drop d) = c at h2 hR2 hcl ⊢
    rw [bif_true (by simp; omega), gd_pos (by rw [tx_gt, sub_size _ _ _ (Nat.le_refl _), size_nb]; constructor <;> omega), w64_nat (k := d + c) (by simp) (by omega)]
    rw [build_ok hI k f t (d + c) (kk + 1) _ hR2 (by omega) (by omega) (by simp; omega)]
    simp only [Option.bind_some]
    rw [gd_pos (by omega), gd_pos (by simp; omega), if_pos h2]
    simp only [List.append_assoc, List.singleton_append, set_end, List.length_append, List.length_singleton, tx_gt]
    have e2 : sub (sub (tx n f) (d : Int) ((tx n f).size : Int)) 0 (c : Int) = sub (tx n f) (d : Int) ((d + c : Nat) : Int) := by
     apply B_inj
     rw [B_sub, sub_tail, B_sub]
     simp only [Int.toNat_natCast, Int.toNat_zero, List.drop_zero, List.drop_take]
     congr 1
     omega
    rw [e2]
    simp only [T.flat, Ks.flat, Ks.vec, Lab.node, List.append_nil, v0]
    rfl
   ·rw [bif_false (by simp; omega), if_neg h2, trie_builder_branch.f, gd_pos (by constructor <;> omega)]
    have hrec : ∀ (i j : Nat) (tt : List Node), Rg n i j (d + 1) → tt.length + (k + 1) * (j - i) ≤ 1000000000 → trie_builder_build.f kk l n tt i j ((d + 1 : Nat) : Int) = some ((tt.length : Int), tt ++ (mk n l k i j (d + 1)).flat tt.length) :=
     fun i j tt h3 h4 => build_ok hI k i j (d + 1) kk tt h3 (by omega) (by omega) h4
    have e3 : (((gt n (f : Int)).size : Int) == (d : Int)) = ((nb n f).length == d) := by rw [tx_gt, size_nb, nat_beq]
    rw [e3]
    by_cases h3 : (nb n f).length = d
    ·rw [bif_true (by simpa using h3), gd_pos (by constructor <;> omega), w64_nat (k := f + 1) (by simp) (by omega)]
     simp only [Option.bind_some]
     have hm1 : (k + 1) * (t - (f + 1)) ≤ (k + 1) * (t - f) := Nat.mul_le_mul_left _ (by omega)
     rw [branch_l0 hI hR hrec (t - f) (f + 1) BIG _ _ (by omega) (by have := BIG_ge; omega) (by omega) (by omega) (by simp; omega)]
     simp only [Option.bind_some]
     rw [gd_pos (by simp; omega), if_pos h3]
     simp only [List.append_assoc, List.singleton_append, set_end, List.length_append, List.length_singleton, T.flat, Lab.node, gt_nat, val, v0]
    ·rw [bif_false (by simpa using h3)]
     simp only [Option.bind_some]
     rw [branch_l0 hI hR hrec (t - f) f BIG _ _ (by omega) (by have := BIG_ge; omega) (by omega) (by omega) (by simp; omega)]
     simp only [Option.bind_some]
     rw [gd_pos (by simp; omega), if_neg h3]
     simp only [List.append_assoc, List.singleton_append, set_end, List.length_append, List.length_singleton, T.flat, Lab.node, v0]
end Go.Lf
/- The document's builder lays out the trie of the pairs, too. -/
set_option linter.unusedVariables false
set_option linter.unusedSimpArgs false
namespace Go.Lf
open Go
variable {n : List ByteArray} {l : List Pair}
theorem add_l1 {t d i : Nat} (ht : t ≤ n.length) (hn : n.length < 1000000) (hi : i < t) (hl : ∀ j, i ≤ j → j < t → d < (nb n j).length) : ∀ (fuel j : Nat), t - j < fuel → i ≤ j → j ≤ t → ref10_maker_add.l1 n t d i fuel j = some ((runF (fun j => byteAt n j d == byteAt n i d) (t - j) j : Nat) : Int)
 | 0, j, h, _, _ => by omega
 | fuel + 1, j, h, hij, hjt => by
  rw [ref10_maker_add.l1]
  rcases Nat.lt_or_ge j t with hj | hj
  ·have h1 := hl j hij hj
   have h0 := hl i (Nat.le_refl _) hi
   rw [bif_true (by simp; omega), gd_pos (by constructor <;> omega), gd_pos (by rw [tx_gt, size_nb]; constructor <;> omega), gd_pos (by constructor <;> omega), gd_pos (by rw [tx_gt, size_nb]; constructor <;> omega)]
   simp only [Option.bind_some, tx_gt, bt_byte, nat_beq]
   rw [show t - j = (t - (j + 1)) + 1 by omega, runF]
   cases hc : (byteAt n j d == byteAt n i d)
   ·simp
   ·rw [bif_true rfl, w64_nat (k := j + 1) (by simp) (by omega), add_l1 ht hn hi hl fuel (j + 1) (by omega) (by omega) (by omega)]
    simp
  ·rw [bif_false (by simp; omega)]
   have : t - j = 0 := by omega
   simp [this, runF]
theorem common2_l0 {x y : ByteArray} (hx : x.size < 1000000) : ∀ (fuel i : Nat), x.size - i < fuel → ref02_Common.l0 x y fuel i = some ((i + comm ((B x).drop i) ((B y).drop i) : Nat) : Int)
 | 0, i, h => by omega
 | fuel + 1, i, h => by
  rw [ref02_Common.l0]
  by_cases hi : i < x.size ∧ i < y.size
  ·rw [bif_true (by simp; omega), bif_true (by simp; omega), gd_pos (by omega), gd_pos (by omega)]
   simp only [Option.bind_some, bt_lt, nat_beq]
   rw [comm_drop (by rw [B_len]; omega) (by rw [B_len]; omega)]
   cases hc : ((B x).getD i 0 == (B y).getD i 0)
   ·rw [if_neg (by simpa using hc)]
    simp
   ·rw [if_pos (by simpa using hc), bif_true rfl, w64_nat (k := i + 1) (by simp) (by omega), common2_l0 hx fuel (i + 1) (by omega)]
    congr 2
    omega
  ·have : (bif decide ((i : Int) < (x.size : Int)) then
     bif decide ((i : Int) < (y.size : Int)) then
      gd (0 ≤ (i : Int) ∧ (i : Int) < (x.size : Int)) <|
      gd (0 ≤ (i : Int) ∧ (i : Int) < (y.size : Int)) <|
      some ((bt x i) == (bt y i))
     else
      some false
    else
     some false) = some false := by
    by_cases h1 : i < x.size
    ·rw [bif_true (by simp; omega), bif_false (by simp; omega)]
    ·rw [bif_false (by simp; omega)]
   rw [this]
   simp only [Option.bind_some]
   rw [bif_false rfl, comm_end (by rw [B_len, B_len]; omega)]
   simp
theorem common2_ok {x y : ByteArray} (hx : x.size < 1000000) : ref02_Common.f x y = some ((comm (B x) (B y) : Nat) : Int) := by
 unfold ref02_Common.f
 have h : ref02_Common.l0 x y BIG 0 = some ((0 + comm ((B x).drop 0) ((B y).drop 0) : Nat) : Int) := common2_l0 (y := y) hx BIG 0 (by have := BIG_ge; omega)
 rw [h]
 simp
theorem gt_end {α : Type} [Inhabited α] (tt r : List α) (x : α) : gt (tt ++ x :: r) (tt.length : Int) = x := by simp [gt]
/-- What leads to a text's place d. -/
def pre (n : List ByteArray) (i d : Nat) : ByteArray := sub (tx n i) 0 (d : Int)
theorem B_pre (n : List ByteArray) (i d : Nat) : B (pre n i d) = (nb n i).take d := by simp [pre, B_sub, nb]
theorem B_one (n : List ByteArray) (i d : Nat) (h : byteAt n i d < 256) : B (strOfNums [((byteAt n i d : Nat) : Int)]) = [byteAt n i d] := by
 rw [B_strOfNums (by simp; omega)]
 simp
theorem pre_step {f i d : Nat} (hs : (nb n i).take d = (nb n f).take d) (hl : d < (nb n i).length) (h : byteAt n i d < 256) : pre n f d ++ strOfNums [((byteAt n i d : Nat) : Int)] = pre n i (d + 1) := by
 apply B_inj
 rw [B_append, B_pre, B_pre, B_one n i d h, List.take_add_one, hs, List.getElem?_eq_getElem hl]
 simp [byteAt, List.getD_eq_getElem?_getD, List.getElem?_eq_getElem hl]
theorem add_l0 (hI : In n l) {f t d k : Nat} (hR : Rg n f t d) {tt : List Node} {lab : Lab} {a0t : List Node} (ha0 : a0t.length = tt.length)
  {rc : List Pair → List ByteArray → List Node → List ByteArray → Int → Int → Int → Option (Int × List Node × List ByteArray)}
  (hrec : ∀ (i j : Nat) (tt : List Node) (pp : List ByteArray), Rg n i j (d + 1) → tt.length + (k + 1) * (j - i) ≤ 1000000000 → pp.length = tt.length →
   rc l n tt pp i j ((d + 1 : Nat) : Int) = some ((tt.length : Int), tt ++ (mk n l k i j (d + 1)).flat tt.length, pp ++ (mk n l k i j (d + 1)).paths (pre n i (d + 1)))) :
  ∀ (m i fuel : Nat) (rest : List Node) (pp : List ByteArray) (v : V16), t - i ≤ m → t - i < fuel → (f < i ∨ d < (nb n f).length ∧ f ≤ i) → i ≤ t → tt.length + 1 + rest.length + (k + 1) * (t - i) ≤ 1000000000 → pp.length = tt.length + 1 + rest.length →
   ref10_maker_add.l0 l n a0t t d rc fuel (pp, tt ++ lab.node v :: rest, i) = some (pp ++ (mkKs n (fun i j => mk n l k i j (d + 1)) d t m i).paths (pre n f d) true, tt ++ lab.node ((mkKs n (fun i j => mk n l k i j (d + 1)) d t m i).vec (tt.length + 1 + rest.length) v) :: (rest ++ (mkKs n (fun i j => mk n l k i j (d + 1)) d t m i).flat (tt.length + 1 + rest.length)))
 | m, i, 0, rest, pp, v, hm, hfu, hi, hit, hsz, hpl => by omega
 | m, i, fuel + 1, rest, pp, v, hm, hfu, hi, hit, hsz, hpl => by
  have hle := hR.le
  have hfew := hI.few
  rw [ref10_maker_add.l0]
  rcases Nat.lt_or_ge i t with ht | ht
  ·obtain ⟨m, rfl⟩ : ∃ m', m = m' + 1 := ⟨m - 1, by omega⟩
   have h1 := hR.go hI.srt hi ht
   have hs := hI.short i (by omega)
   have hb := hI.nib i (by omega) d
   have hgt := run_gt (n := n) (d := d) ht
   have hrl := run_le (n := n) (d := d) (Nat.le_of_lt ht)
   rw [bif_true (by simp; omega)]
   rw [add_l1 hle hfew ht (fun j h2 h3 => hR.go hI.srt (i := j) (by omega) h3) BIG i (by have := BIG_ge; omega) (Nat.le_refl _) hit]
   rw [Option.bind_some]
   rw [w64_nat (x := (d : Int) + 1) (k := d + 1) (by simp) (by omega)]
   have e : ((runF (fun j => byteAt n j d == byteAt n i d) (t - i) i : Nat) : Int) = (run n d t i : Nat) := rfl
   have hmul : (k + 1) * (t - i) = (k + 1) * (run n d t i - i) + (k + 1) * (t - run n d t i) := by rw [← Nat.mul_add]; congr 1; omega
   rw [e, hrec i _ (tt ++ lab.node v :: rest) pp (hR.run hI.srt hi ht) (by simp; omega) (by simp; omega)]
   simp only [Option.bind_some]
   rw [gd_pos (by constructor <;> omega), gd_pos (by rw [tx_gt, size_nb]; constructor <;> omega), gd_pos (by simp; omega), gd_pos (by rw [bt_tx]; constructor <;> omega)]
   have hsz2 := mk_sz (n := n) (l := l) k i (run n d t i) (d + 1) hgt
   simp only [List.append_assoc, List.cons_append, ha0, set_end, gt_end, bt_tx]
   have hn : ({ lab.node v with kids_ := vset (lab.node v).kids_ ((byteAt n i d : Nat) : Int) ((tt ++ lab.node v :: rest).length : Int) } : Node) = lab.node (vset v ((byteAt n i d : Nat) : Int) ((tt.length + 1 + rest.length : Nat) : Int)) := by
    simp [Lab.node]; congr 1; omega
   rw [hn]
   have hl0 : (tt ++ lab.node v :: rest).length = tt.length + 1 + rest.length := by simp; omega
   rw [hl0]
   rw [add_l0 hI hR ha0 hrec m (run n d t i) fuel _ _ _ (by omega) (by omega) (by omega) hrl (by simp only [List.length_append, T.flat_len]; omega) (by simp only [List.length_append, T.flat_len, T.paths_len]; omega)]
   rw [mkKs, if_pos ht]
   simp only [Ks.flat, Ks.vec, Ks.paths, List.length_append, T.flat_len, List.append_assoc, if_true, Nat.add_assoc]
   rw [pre_step (by rw [hR.same i (by omega) ht]) h1 (by omega)]
  ·rw [bif_false (by simp; omega)]
   have : mkKs n (fun i j => mk n l k i j (d + 1)) d t m i = .nil := by
    cases m with
    | zero => rfl
    | succ m => rw [mkKs, if_neg (by omega)]
   rw [this]
   simp [Ks.flat, Ks.vec, Ks.paths]

theorem set_last {α : Type} (tt : List α) (x y : α) : (tt ++ [x]).set ((tt.length : Int)).toNat y = tt ++ [y] := by simp
theorem gt_last {α : Type} [Inhabited α] (tt : List α) (x : α) : gt (tt ++ [x]) (tt.length : Int) = x := by simp [gt]
theorem add_ok (hI : In n l) : ∀ (k f t d kk : Nat) (tt : List Node) (pp : List ByteArray), Rg n f t d → 17 ≤ d + k → k ≤ kk → tt.length + (k + 1) * (t - f) ≤ 1000000000 → pp.length = tt.length →
  ref10_maker_add.f kk l n tt pp f t d = some ((tt.length : Int), tt ++ (mk n l k f t d).flat tt.length, pp ++ (mk n l k f t d).paths (pre n f d))
 | 0, f, t, d, kk, tt, pp, hR, hd, _, _, _ => by
  have := hI.short f (by have := hR.lt; have := hR.le; omega)
  have := hR.long f (Nat.le_refl _) hR.lt
  omega
 | k + 1, f, t, d, 0, tt, pp, hR, hd, hk, _, _ => by omega
 | k + 1, f, t, d, kk + 1, tt, pp, hR, hd, hk, hsz, hpl => by
  have hlt := hR.lt
  have hle := hR.le
  have hfew := hI.few
  have hlen := hI.len
  have hsh := hI.short f (by omega)
  have hsh2 := hI.short (t - 1) (by omega)
  have hlo := hR.long f (Nat.le_refl _) hlt
  have hlo2 := hR.long (t - 1) (by omega) (by omega)
  rw [ref10_maker_add.f]
  have hmul : (k + 1 + 1) * (t - f) = (k + 1) * (t - f) + (t - f) := by rw [Nat.add_mul, Nat.one_mul]
  have g1 : 0 ≤ (f : Int) ∧ (f : Int) < (n.length : Int) := by constructor <;> omega
  have g2 : 0 ≤ (d : Int) ∧ (d : Int) ≤ ((gt n (f : Int)).size : Int) := by rw [tx_gt, size_nb]; constructor <;> omega
  have g3 : 0 ≤ (f : Int) ∧ (f : Int) < (l.length : Int) := by constructor <;> omega
  rw [gd_pos (by omega), gd_pos g1, gd_pos g2, gd_pos (by omega)]
  rw [w64_nat (x := (f : Int) + 1) (k := f + 1) (by simp) (by omega), nat_beq]
  by_cases h1 : t = f + 1
  ·rw [bif_true (by simpa using h1), gd_pos g1, gd_pos g2, gd_pos g3, gd_pos (by simp; omega), set_last, mk, if_pos h1]
   simp [T.flat, T.paths, Ks.paths, Ks.flat, Ks.vec, Lab.node, tx_gt, gt_nat, val, v0, tx, pre]
  ·rw [bif_false (by simpa using h1), gd_pos g1, gd_pos g2, show ((t : Int) - 1) = ((t - 1 : Nat) : Int) by omega, w64_nat (k := t - 1) rfl (by omega), gd_pos (by constructor <;> omega), gd_pos (by rw [tx_gt, size_nb]; constructor <;> omega)]
   rw [common2_ok (by rw [tx_gt, sub_size _ _ _ (Nat.le_refl _), size_nb]; omega)]
   rw [Option.bind_some, mk, if_neg h1]
   have hcl := comm_le_left ((nb n f).drop d) ((nb n (t - 1)).drop d)
   simp only [List.length_drop] at hcl
   have e1 : comm (B (sub (gt n (f : Int)) (d : Int) ((gt n (f : Int)).size : Int))) (B (sub (gt n ((t - 1 : Nat) : Int)) (d : Int) ((gt n ((t - 1 : Nat) : Int)).size : Int))) = comm ((nb n f).drop d) ((nb n (t - 1)).drop d) := by rw [tx_gt, tx_gt, sub_tail, sub_tail]; rfl
   rw [e1]
   by_cases h2 : 0 < comm ((nb n f).drop d) ((nb n (t - 1)).drop d)
   ·have hR2 := hR.comm hI.srt
    generalize hc : comm ((nb n f).drop d) ((nb n (t - 1)).drop d) = c at h2 hR2 hcl ⊢
    rw [bif_true (by simp; omega), gd_pos g1, w64_nat (x := (d : Int) + (c : Int)) (k := d + c) (by simp) (by omega), gd_pos (by rw [tx_gt, size_nb]; refine ⟨?_, ?_, ?_⟩ <;> omega), gd_pos (by simp; omega), set_last]
    rw [add_ok hI k f t (d + c) kk _ _ hR2 (by omega) (by omega) (by simp; omega) (by simp; omega)]
    simp only [Option.bind_some]
    rw [gd_pos (by simp; omega), gd_pos (by omega), if_pos h2]
    simp only [List.append_assoc, List.singleton_append, set_end, gt_end, List.length_append, List.length_singleton, tx_gt]
    have e2 : pre n f d ++ sub (tx n f) (d : Int) ((d + c : Nat) : Int) = pre n f (d + c) := by
     apply B_inj
     rw [B_append, B_pre, B_pre, B_sub]
     simp only [Int.toNat_natCast, nb]
     rw [show (B (tx n f)).take d = ((B (tx n f)).take (d + c)).take d by rw [List.take_take, Nat.min_eq_left (by omega)], List.take_append_drop]
    simp only [T.flat, T.paths, Ks.paths, Ks.flat, Ks.vec, Lab.node, List.append_nil, v0, e2, List.cons_append, List.nil_append]
    rfl
   ·rw [bif_false (by simp; omega), if_neg h2, gd_pos (by simp; omega)]
    have hrec : ∀ (i j : Nat) (tt : List Node) (pp : List ByteArray), Rg n i j (d + 1) → tt.length + (k + 1) * (j - i) ≤ 1000000000 → pp.length = tt.length → ref10_maker_add.f kk l n tt pp i j ((d + 1 : Nat) : Int) = some ((tt.length : Int), tt ++ (mk n l k i j (d + 1)).flat tt.length, pp ++ (mk n l k i j (d + 1)).paths (pre n i (d + 1))) :=
     fun i j tt pp h3 h4 h5 => add_ok hI k i j (d + 1) kk tt pp h3 (by omega) (by omega) h4 h5
    have e3 : (((gt n (f : Int)).size : Int) == (d : Int)) = ((nb n f).length == d) := by rw [tx_gt, size_nb, nat_beq]
    rw [gd_pos g1, e3]
    simp only [set_last, gt_last]
    have e4 : sub (gt n (f : Int)) 0 (d : Int) = pre n f d := rfl
    have e5 : pre n f d ++ (⟨#[]⟩ : ByteArray) = pre n f d := by
     apply B_inj
     rw [B_append, B_empty, List.append_nil]
    by_cases h3 : (nb n f).length = d
    ·rw [bif_true (by simpa using h3), gd_pos g3, gd_pos (by simp; omega), gd_pos (by simp; omega)]
     simp only [Option.bind_some]
     have hm1 : (k + 1) * (t - (f + 1)) ≤ (k + 1) * (t - f) := Nat.mul_le_mul_left _ (by omega)
     have := add_l0 hI hR (tt := tt) (lab := ⟨3, ⟨#[]⟩, true, val l f⟩) (a0t := tt) rfl hrec (t - f) (f + 1) BIG [] (pp ++ [pre n f d]) v0 (by omega) (by have := BIG_ge; omega) (by omega) (by omega) (by simp; omega) (by simp; omega)
     simp only [Lab.node, val, v0, List.length_nil, Nat.add_zero, List.nil_append] at this
     rw [e4]
     simp only [gt_nat]
     rw [this]
     simp only [Option.bind_some]
     rw [if_pos h3]
     simp only [T.flat, T.paths, Lab.node, val, v0, List.append_assoc, List.singleton_append, e5]
     simp
    ·rw [bif_false (by simpa using h3)]
     simp only [Option.bind_some]
     have := add_l0 hI hR (tt := tt) (lab := ⟨3, ⟨#[]⟩, false, ⟨#[]⟩⟩) (a0t := tt) rfl hrec (t - f) f BIG [] (pp ++ [pre n f d]) v0 (by omega) (by have := BIG_ge; omega) (by omega) (by omega) (by simp; omega) (by simp; omega)
     simp only [Lab.node, val, v0, List.length_nil, Nat.add_zero, List.nil_append] at this
     rw [e4]
     rw [this]
     simp only [Option.bind_some]
     rw [if_neg h3]
     simp only [T.flat, T.paths, Lab.node, val, v0, List.append_assoc, List.singleton_append, e5]
     simp
end Go.Lf
/- Pairs that may be; their nibbles; their trie. -/
set_option linter.unusedVariables false
set_option linter.unusedSimpArgs false
namespace Go.Lf
open Go
theorem lex_tri : ∀ x y : List Nat, x < y ∨ x = y ∨ y < x
 | [], [] => .inr (.inl rfl)
 | [], _ :: _ => .inl (by simp)
 | _ :: _, [] => .inr (.inr (by simp))
 | a :: x, b :: y => by
  simp only [List.cons_lt_cons_iff, List.cons.injEq]
  rcases Nat.lt_trichotomy a b with h | rfl | h
  ·exact .inl (.inl h)
  ·rcases lex_tri x y with h | rfl | h
   ·exact .inl (.inr ⟨rfl, h⟩)
   ·exact .inr (.inl ⟨rfl, rfl⟩)
   ·exact .inr (.inr (.inr ⟨rfl, h⟩))
  ·exact .inr (.inr (.inl h))
theorem lex_irr : ∀ x : List Nat, ¬ x < x
 | [] => by simp
 | a :: x => by
  simp only [List.cons_lt_cons_iff]
  rintro (h | ⟨-, h⟩)
  ·omega
  ·exact lex_irr x h
theorem lex_trans : ∀ {x y z : List Nat}, x < y → y < z → x < z
 | _, [], _, h, _ => by simp at h
 | _, _ :: _, [], _, h => by simp at h
 | [], _ :: _, _ :: _, _, _ => by simp
 | a :: x, b :: y, c :: z, h, h' => by
  simp only [List.cons_lt_cons_iff] at *
  rcases h with h | ⟨rfl, h⟩
  ·rcases h' with h' | ⟨rfl, h'⟩
   ·exact .inl (by omega)
   ·exact .inl h
  ·rcases h' with h' | ⟨rfl, h'⟩
   ·exact .inl h'
   ·exact .inr ⟨rfl, lex_trans h h'⟩
def key (l : List Pair) (i : Nat) : ByteArray := (l.getD i default).key_
theorem key_gt (l : List Pair) (i : Nat) : (gt l (i : Int)).key_ = key l i := rfl
theorem val_gt (l : List Pair) (i : Nat) : (gt l (i : Int)).value_ = val l i := rfl
/-- Pair i may stand where it stands. -/
def MayI (l : List Pair) (i : Nat) : Prop := 1 ≤ (key l i).size ∧ (key l i).size ≤ 8 ∧ (val l i).size ≤ 16 ∧ (0 < i → B (key l (i - 1)) < B (key l i))
def MayP (l : List Pair) : Prop := ∀ i, i < l.length → MayI l i
theorem not_lt_or {x y : ByteArray} : (slt x y || seq_ x y) = false ↔ B y < B x := by
 rw [slt_B, seq_B]
 simp only [Bool.or_eq_false_iff, decide_eq_false_iff_not, B_eq]
 constructor
 ·rintro ⟨h1, h2⟩
  rcases lex_tri (B x) (B y) with h | h | h
  ·exact absurd h h1
  ·exact absurd h h2
  ·exact h
 ·intro h
  exact ⟨fun h' => lex_irr _ (lex_trans h h'), fun e => by rw [e] at h; exact lex_irr _ h⟩
theorem may_l0 {l : List Pair} (hl : l.length < 1000000) : ∀ (fuel i : Nat), l.length - i < fuel →
  ((∀ j, i ≤ j → j < l.length → MayI l j) ∧ ref10_May.l0 l fuel i = some (.inl ())) ∨ ((∃ j, i ≤ j ∧ j < l.length ∧ ¬ MayI l j) ∧ ref10_May.l0 l fuel i = some (.inr false))
 | 0, i, h => by omega
 | fuel + 1, i, h => by
  rw [ref10_May.l0]
  rcases Nat.lt_or_ge i l.length with hi | hi
  ·have g : 0 ≤ (i : Int) ∧ (i : Int) < (l.length : Int) := by omega
   rw [bif_true (by simp; omega)]
   repeat rw [gd_pos g]
   rw [key_gt, val_gt]
   rw [w64_nat (x := (i : Int) + 1) (k := i + 1) (by simp) (by omega)]
   have hno : ¬ MayI l i → (∃ j, i ≤ j ∧ j < l.length ∧ ¬ MayI l j) := fun h => ⟨i, Nat.le_refl _, hi, h⟩
   have hyes : MayI l i → ((∀ j, i ≤ j → j < l.length → MayI l j) ∧ ref10_May.l0 l fuel ((i + 1 : Nat) : Int) = some (.inl ())) ∨ ((∃ j, i ≤ j ∧ j < l.length ∧ ¬ MayI l j) ∧ ref10_May.l0 l fuel ((i + 1 : Nat) : Int) = some (.inr false)) := by
    intro hm
    rcases may_l0 hl fuel (i + 1) (by omega) with ⟨h1, h2⟩ | ⟨⟨j, h1, h1', h1''⟩, h2⟩
    ·refine .inl ⟨fun j hj hj' => ?_, h2⟩
     rcases Nat.eq_or_lt_of_le hj with rfl | hlt
     ·exact hm
     ·exact h1 j hlt hj'
    ·exact .inr ⟨⟨j, by omega, h1', h1''⟩, h2⟩
   by_cases c1 : (key l i).size < 1
   ·rw [bif_true (c := decide (((key l i).size : Int) < 1)) (decide_eq_true (by omega)), Option.bind_some, bif_true rfl]
    exact .inr ⟨hno fun h => by have := h.1; omega, rfl⟩
   rw [bif_false (c := decide (((key l i).size : Int) < 1)) (decide_eq_false (by omega))]
   by_cases c2 : 8 < (key l i).size
   ·rw [bif_true (c := decide (((key l i).size : Int) > 8)) (decide_eq_true (by omega)), Option.bind_some, bif_true rfl]
    exact .inr ⟨hno fun h => by have := h.2.1; omega, rfl⟩
   rw [bif_false (c := decide (((key l i).size : Int) > 8)) (decide_eq_false (by omega))]
   by_cases c3 : 16 < (val l i).size
   ·rw [bif_true (c := decide (((val l i).size : Int) > 16)) (decide_eq_true (by omega)), Option.bind_some, bif_true rfl]
    exact .inr ⟨hno fun h => by have := h.2.2.1; omega, rfl⟩
   rw [bif_false (c := decide (((val l i).size : Int) > 16)) (decide_eq_false (by omega))]
   by_cases c4 : 0 < i
   ·rw [bif_true (c := decide ((i : Int) > 0)) (decide_eq_true (by omega)), show ((i : Int) - 1) = ((i - 1 : Nat) : Int) by omega, w64_nat (k := i - 1) rfl (by omega), gd_pos (by omega), Option.bind_some, key_gt]
    cases hc : (slt (key l i) (key l (i - 1)) || seq_ (key l i) (key l (i - 1)))
    ·rw [bif_false rfl]
     exact hyes ⟨by omega, by omega, by omega, fun _ => not_lt_or.mp hc⟩
    ·rw [bif_true rfl]
     exact .inr ⟨hno fun h => (by have := not_lt_or.mpr (h.2.2.2 c4); rw [hc] at this; cases this), rfl⟩
   ·rw [bif_false (c := decide ((i : Int) > 0)) (decide_eq_false (by omega)), Option.bind_some, bif_false rfl]
    exact hyes ⟨by omega, by omega, by omega, fun h => absurd h c4⟩
  ·rw [bif_false (by simp; omega)]
   exact .inl ⟨fun j h1 h2 => by omega, rfl⟩
theorem may_ok {l : List Pair} (hl : l.length < 1000000) : (MayP l ∧ ref10_May.f l = some true) ∨ (¬ MayP l ∧ ref10_May.f l = some false) := by
 unfold ref10_May.f
 rcases may_l0 hl BIG 0 (by have := BIG_ge; omega) with ⟨h1, h2⟩ | ⟨⟨j, h1, h1', h1''⟩, h2⟩
 ·exact .inl ⟨fun i hi => h1 i (Nat.zero_le _) hi, by rw [show ((0 : Nat) : Int) = 0 from rfl] at h2; rw [h2]; rfl⟩
 ·exact .inr ⟨fun h => h1'' (h j h1'), by rw [show ((0 : Nat) : Int) = 0 from rfl] at h2; rw [h2]; rfl⟩
theorem seq_empty (x : ByteArray) : seq_ x (⟨#[]⟩ : ByteArray) = decide (x.size < 1) := by
 rw [seq_B, Bool.eq_iff_iff]
 simp only [decide_eq_true_eq, B_eq, B_empty, ← B_len]
 cases B x <;> simp
theorem tmay_l0 {l : List Pair} (hl : l.length < 1000000) : ∀ (fuel i : Nat), l.length - i < fuel →
  ((∀ j, i ≤ j → j < l.length → MayI l j) ∧ trie_may.l0 l fuel i = some (.inl ())) ∨ ((∃ j, i ≤ j ∧ j < l.length ∧ ¬ MayI l j) ∧ trie_may.l0 l fuel i = some (.inr false))
 | 0, i, h => by omega
 | fuel + 1, i, h => by
  rw [trie_may.l0]
  rcases Nat.lt_or_ge i l.length with hi | hi
  ·have g : 0 ≤ (i : Int) ∧ (i : Int) < (l.length : Int) := by omega
   rw [bif_true (by simp; omega)]
   repeat rw [gd_pos g]
   rw [key_gt, val_gt]
   rw [w64_nat (x := (i : Int) + 1) (k := i + 1) (by simp) (by omega)]
   have hno : ¬ MayI l i → (∃ j, i ≤ j ∧ j < l.length ∧ ¬ MayI l j) := fun h => ⟨i, Nat.le_refl _, hi, h⟩
   have hyes : MayI l i → ((∀ j, i ≤ j → j < l.length → MayI l j) ∧ trie_may.l0 l fuel ((i + 1 : Nat) : Int) = some (.inl ())) ∨ ((∃ j, i ≤ j ∧ j < l.length ∧ ¬ MayI l j) ∧ trie_may.l0 l fuel ((i + 1 : Nat) : Int) = some (.inr false)) := by
    intro hm
    rcases tmay_l0 hl fuel (i + 1) (by omega) with ⟨h1, h2⟩ | ⟨⟨j, h1, h1', h1''⟩, h2⟩
    ·refine .inl ⟨fun j hj hj' => ?_, h2⟩
     rcases Nat.eq_or_lt_of_le hj with rfl | hlt
     ·exact hm
     ·exact h1 j hlt hj'
    ·exact .inr ⟨⟨j, by omega, h1', h1''⟩, h2⟩
   by_cases c1 : (key l i).size < 1
   ·rw [bif_true (c := seq_ (key l i) (⟨#[]⟩ : ByteArray)) (by rw [seq_empty]; exact decide_eq_true (by omega)), Option.bind_some, bif_true rfl]
    exact .inr ⟨hno fun h => by have := h.1; omega, rfl⟩
   rw [bif_false (c := seq_ (key l i) (⟨#[]⟩ : ByteArray)) (by rw [seq_empty]; exact decide_eq_false (by omega))]
   by_cases c2 : 8 < (key l i).size
   ·rw [bif_true (c := decide (((key l i).size : Int) > 8)) (decide_eq_true (by omega)), Option.bind_some, bif_true rfl]
    exact .inr ⟨hno fun h => by have := h.2.1; omega, rfl⟩
   rw [bif_false (c := decide (((key l i).size : Int) > 8)) (decide_eq_false (by omega))]
   by_cases c3 : 16 < (val l i).size
   ·rw [bif_true (c := decide (((val l i).size : Int) > 16)) (decide_eq_true (by omega)), Option.bind_some, bif_true rfl]
    exact .inr ⟨hno fun h => by have := h.2.2.1; omega, rfl⟩
   rw [bif_false (c := decide (((val l i).size : Int) > 16)) (decide_eq_false (by omega))]
   by_cases c4 : 0 < i
   ·rw [bif_true (c := decide ((i : Int) > 0)) (decide_eq_true (by omega)), show ((i : Int) - 1) = ((i - 1 : Nat) : Int) by omega, w64_nat (k := i - 1) rfl (by omega), gd_pos (by omega), Option.bind_some, key_gt]
    cases hc : (slt (key l i) (key l (i - 1)) || seq_ (key l i) (key l (i - 1)))
    ·rw [bif_false rfl]
     exact hyes ⟨by omega, by omega, by omega, fun _ => not_lt_or.mp hc⟩
    ·rw [bif_true rfl]
     exact .inr ⟨hno fun h => (by have := not_lt_or.mpr (h.2.2.2 c4); rw [hc] at this; cases this), rfl⟩
   ·rw [bif_false (c := decide ((i : Int) > 0)) (decide_eq_false (by omega)), Option.bind_some, bif_false rfl]
    exact hyes ⟨by omega, by omega, by omega, fun h => absurd h c4⟩
  ·rw [bif_false (by simp; omega)]
   exact .inl ⟨fun j h1 h2 => by omega, rfl⟩
theorem tmay_ok {l : List Pair} (hl : l.length < 1000000) : (MayP l ∧ trie_may.f l = some true) ∨ (¬ MayP l ∧ trie_may.f l = some false) := by
 unfold trie_may.f
 rcases tmay_l0 hl BIG 0 (by have := BIG_ge; omega) with ⟨h1, h2⟩ | ⟨⟨j, h1, h1', h1''⟩, h2⟩
 ·exact .inl ⟨fun i hi => h1 i (Nat.zero_le _) hi, by rw [show ((0 : Nat) : Int) = 0 from rfl] at h2; rw [h2]; rfl⟩
 ·exact .inr ⟨fun h => h1'' (h j h1'), by rw [show ((0 : Nat) : Int) = 0 from rfl] at h2; rw [h2]; rfl⟩
/-- The nibbles of a text. -/
def nbl (x : List Nat) : List Nat := x.flatMap fun b => [b / 16, b % 16]
def nib (s : ByteArray) : ByteArray := S (nbl (B s))
theorem nbl_lt {x : List Nat} (h : ∀ b ∈ x, b < 256) : ∀ b ∈ nbl x, b < 16 := by
 intro b hb
 simp only [nbl, List.mem_flatMap] at hb
 obtain ⟨c, hc, hb⟩ := hb
 have := h c hc
 simp at hb
 omega
theorem B_nib (s : ByteArray) : B (nib s) = nbl (B s) := B_S fun b hb => by have := nbl_lt (fun b h => B_lt h) b hb; omega
theorem nbl_len : ∀ x : List Nat, (nbl x).length = 2 * x.length
 | [] => rfl
 | a :: x => by
  have := nbl_len x
  simp only [nbl, List.flatMap_cons, List.length_append, List.length_cons, List.length_nil] at *
  omega
theorem nbl_mono : ∀ {x y : List Nat}, x < y → nbl x < nbl y
 | _, [], h => by simp at h
 | [], b :: y, _ => by simp [nbl]
 | a :: x, b :: y, h => by
  simp only [List.cons_lt_cons_iff] at h
  simp only [nbl, List.flatMap_cons, List.cons_append, List.nil_append, List.cons_lt_cons_iff]
  rcases h with h | ⟨rfl, h⟩
  ·omega
  ·exact .inr ⟨rfl, .inr ⟨rfl, nbl_mono h⟩⟩
end Go.Lf
/- The trie of pairs: what Build gives. -/
set_option linter.unusedVariables false
set_option linter.unusedSimpArgs false
namespace Go.Lf
open Go
theorem drop_cons {α : Type} {x : List α} {i : Nat} (d : α) (h : i < x.length) : x.drop i = x.getD i d :: x.drop (i + 1) := by
 rw [List.drop_eq_getElem_cons h]
 simp [List.getD_eq_getElem?_getD, List.getElem?_eq_getElem h]
theorem getB_lt {s : ByteArray} {i : Nat} (h : i < s.size) : (B s).getD i 0 < 256 := by
 have h' : i < (B s).length := by rw [B_len]; exact h
 rw [List.getD_eq_getElem?_getD, List.getElem?_eq_getElem h', Option.getD_some]
 exact B_lt (List.getElem_mem h')
theorem shr4 {b : Nat} (h : b < 256) : shr .u8 (b : Int) 4 = ((b / 16 : Nat) : Int) := by
 have : ∀ b : Fin 256, shr .u8 ((b.val : Nat) : Int) 4 = ((b.val / 16 : Nat) : Int) := by decide +kernel
 exact this ⟨b, h⟩
theorem and15 {b : Nat} (h : b < 256) : band .u8 (b : Int) 15 = ((b % 16 : Nat) : Int) := by
 have : ∀ b : Fin 256, band .u8 ((b.val : Nat) : Int) 15 = ((b.val % 16 : Nat) : Int) := by decide +kernel
 exact this ⟨b, h⟩
theorem div16 {b : Nat} (h : b < 256) : wu8 ((b : Int).tdiv 16) = ((b / 16 : Nat) : Int) := by
 rw [show ((b : Int).tdiv 16) = ((b / 16 : Nat) : Int) by rw [Int.tdiv_eq_ediv_of_nonneg (by omega)]; omega]
 exact wu8_id (by omega)
theorem mod16 {b : Nat} : (b : Int).tmod 16 = ((b % 16 : Nat) : Int) := by
 rw [Int.tmod_eq_emod_of_nonneg (by omega)]; omega
/-- The nibbles from byte i on, as the program's numbers. -/
def nbi (x : List Nat) : List Int := (nbl x).map fun b => ((b : Nat) : Int)
theorem nbi_cons (a : Nat) (x : List Nat) : nbi (a :: x) = [((a / 16 : Nat) : Int), ((a % 16 : Nat) : Int)] ++ nbi x := by simp [nbi, nbl]
theorem of_l0 {s : ByteArray} (hs : s.size < 1000000) : ∀ (fuel i : Nat) (a : List Int), s.size - i < fuel → a.length ≤ 2 * i → i ≤ s.size → nibble_Of.l0 s fuel (a, i) = some (a ++ nbi ((B s).drop i))
 | 0, i, a, h, _, _ => by omega
 | fuel + 1, i, a, h, ha, hi' => by
  rw [nibble_Of.l0]
  rcases Nat.lt_or_ge i s.size with hi | hi
  ·have g : 0 ≤ (i : Int) ∧ (i : Int) < (s.size : Int) := by omega
   have hb := getB_lt hi
   rw [bif_true (decide_eq_true g.2), gd_pos g, gd_pos g, gd_pos (by omega), w64_nat (x := (i : Int) + 1) (k := i + 1) (by simp) (by omega)]
   rw [of_l0 hs fuel (i + 1) _ (by omega) (by simp; omega) (by omega), drop_cons (x := B s) (i := i) 0 (by rw [B_len]; omega), nbi_cons, bt_lt, shr4 hb, and15 hb, List.append_assoc]
  ·rw [bif_false (decide_eq_false (by omega)), List.drop_eq_nil_of_le (by rw [B_len]; omega)]
   simp [nbi, nbl]
theorem of2_l0 {s : ByteArray} (hs : s.size < 1000000) : ∀ (fuel i : Nat) (a : List Int), s.size - i < fuel → a.length ≤ 2 * i → i ≤ s.size → ref02_Of.l0 s fuel (a, i) = some (a ++ nbi ((B s).drop i))
 | 0, i, a, h, _, _ => by omega
 | fuel + 1, i, a, h, ha, hi' => by
  rw [ref02_Of.l0]
  rcases Nat.lt_or_ge i s.size with hi | hi
  ·have g : 0 ≤ (i : Int) ∧ (i : Int) < (s.size : Int) := by omega
   have hb := getB_lt hi
   rw [bif_true (decide_eq_true g.2), gd_pos g, gd_pos g, gd_pos (by omega), w64_nat (x := (i : Int) + 1) (k := i + 1) (by simp) (by omega)]
   rw [of2_l0 hs fuel (i + 1) _ (by omega) (by simp; omega) (by omega), drop_cons (x := B s) (i := i) 0 (by rw [B_len]; omega), nbi_cons, bt_lt, div16 hb, mod16, List.append_assoc]
  ·rw [bif_false (decide_eq_false (by omega)), List.drop_eq_nil_of_le (by rw [B_len]; omega)]
   simp [nbi, nbl]
theorem str_nbi (s : ByteArray) : strOfNums (nbi (B s)) = nib s := by
 apply B_inj
 have hlt := nbl_lt (x := B s) (fun b h => B_lt h)
 rw [B_nib, B_strOfNums]
 ·simp [nbi, Function.comp_def]
 ·intro x hx
  simp only [nbi, List.mem_map] at hx
  obtain ⟨b, hb, rfl⟩ := hx
  have := hlt b hb
  omega
theorem of_ok {s : ByteArray} (hs : s.size < 1000000) : nibble_Of.f s = some (nib s) := by
 unfold nibble_Of.f
 rw [show (2 : Int) * (s.size : Int) = ((2 * s.size : Nat) : Int) by omega, w64_nat (k := 2 * s.size) rfl (by omega), gd_pos (by omega)]
 have h : nibble_Of.l0 s BIG (([] : List Int), 0) = some ([] ++ nbi ((B s).drop 0)) := of_l0 hs BIG 0 [] (by have := BIG_ge; omega) (by simp) (by omega)
 rw [h]
 simp [str_nbi]
theorem of2_ok {s : ByteArray} (hs : s.size < 1000000) : ref02_Of.f s = some (nib s) := by
 unfold ref02_Of.f
 have h : ref02_Of.l0 s BIG (([] : List Int), 0) = some ([] ++ nbi ((B s).drop 0)) := of2_l0 hs BIG 0 [] (by have := BIG_ge; omega) (by simp) (by omega)
 rw [h]
 simp [str_nbi]
/-- All pairs' nibbles. -/
def nibs (l : List Pair) : List ByteArray := l.map fun x => nib x.key_
theorem tx_nibs {l : List Pair} {i : Nat} (h : i < l.length) : tx (nibs l) i = nib (key l i) := by
 simp [tx, nibs, key, List.getD_eq_getElem?_getD, List.getElem?_eq_getElem h]
theorem nb_nibs {l : List Pair} {i : Nat} (h : i < l.length) : nb (nibs l) i = nbl (B (key l i)) := by rw [nb, tx_nibs h, B_nib]
theorem keys_up {l : List Pair} (hm : MayP l) : ∀ (d i : Nat), i + 1 + d < l.length → B (key l i) < B (key l (i + 1 + d))
 | 0, i, h => by
  have := (hm (i + 1) (by omega)).2.2.2 (by omega)
  simpa using this
 | d + 1, i, h => by
  have h1 := keys_up hm d i (by omega)
  have := (hm (i + 1 + (d + 1)) (by omega)).2.2.2 (by omega)
  rw [show i + 1 + (d + 1) - 1 = i + 1 + d by omega] at this
  exact lex_trans h1 this
theorem in_nibs {l : List Pair} (hm : MayP l) (hl : l.length < 1000000) : In (nibs l) l := by
 have hlen : (nibs l).length = l.length := by simp [nibs]
 refine ⟨fun i j hij hj => ?_, hlen.symm, by omega, fun i hi d => ?_, fun i hi => ?_⟩
 ·rw [hlen] at hj
  rw [nb_nibs (by omega), nb_nibs hj]
  have := keys_up hm (j - i - 1) i (by omega)
  rw [show i + 1 + (j - i - 1) = j by omega] at this
  exact nbl_mono this
 ·rw [hlen] at hi
  have hlt := nbl_lt (x := B (key l i)) (fun b h => B_lt h)
  unfold byteAt
  rw [nb_nibs hi, List.getD_eq_getElem?_getD]
  rcases Nat.lt_or_ge d (nbl (B (key l i))).length with hd | hd
  ·rw [List.getElem?_eq_getElem hd]
   exact hlt _ (List.getElem_mem hd)
  ·rw [List.getElem?_eq_none hd]
   decide
 ·rw [hlen] at hi
  rw [nb_nibs hi, nbl_len, B_len]
  have := (hm i hi).2.1
  omega
theorem rg0 {l : List Pair} (hm : MayP l) (h0 : 0 < l.length) : Rg (nibs l) 0 l.length 0 :=
 ⟨h0, by simp [nibs], fun i _ _ => Nat.zero_le _, fun i _ _ => by simp⟩
/-- The trie of pairs, as a tree (where there are any). -/
def tre (l : List Pair) : T := mk (nibs l) l 17 0 l.length 0
def tri (l : List Pair) : List Node := if l = [] then [] else (tre l).flat 0
def trp (l : List Pair) : List ByteArray := if l = [] then [] else (tre l).paths ⟨#[]⟩
theorem build_l0 {l : List Pair} (hm : MayP l) (hl : l.length < 1000000) : ∀ (fuel i : Nat) (a : List ByteArray), l.length - i < fuel → a.length = i → i ≤ l.length → trie_Build.l0 l fuel (a, i) = some (a ++ nibs (l.drop i))
 | 0, i, a, h, _, _ => by omega
 | fuel + 1, i, a, h, ha, hi' => by
  rw [trie_Build.l0]
  rcases Nat.lt_or_ge i l.length with hi | hi
  ·have g : 0 ≤ (i : Int) ∧ (i : Int) < (l.length : Int) := by omega
   have hs := (hm i hi).2.1
   rw [bif_true (decide_eq_true g.2), gd_pos g, key_gt, of_ok (by omega), Option.bind_some, gd_pos (by omega), w64_nat (x := (i : Int) + 1) (k := i + 1) (by simp) (by omega)]
   rw [build_l0 hm hl fuel (i + 1) _ (by omega) (by simp; omega) (by omega), drop_cons default hi]
   simp [nibs, key]
  ·rw [bif_false (decide_eq_false (by omega)), List.drop_eq_nil_of_le (by omega)]
   simp [nibs]
theorem build2_l0 {l : List Pair} (hm : MayP l) (hl : l.length < 1000000) : ∀ (fuel i : Nat) (a : List ByteArray), l.length - i < fuel → a.length = i → i ≤ l.length → ref10_Build.l0 l fuel (a, i) = some (a ++ nibs (l.drop i))
 | 0, i, a, h, _, _ => by omega
 | fuel + 1, i, a, h, ha, hi' => by
  rw [ref10_Build.l0]
  rcases Nat.lt_or_ge i l.length with hi | hi
  ·have g : 0 ≤ (i : Int) ∧ (i : Int) < (l.length : Int) := by omega
   have hs := (hm i hi).2.1
   rw [bif_true (decide_eq_true g.2), gd_pos g, key_gt, of2_ok (by omega), Option.bind_some, gd_pos (by omega), w64_nat (x := (i : Int) + 1) (k := i + 1) (by simp) (by omega)]
   rw [build2_l0 hm hl fuel (i + 1) _ (by omega) (by simp; omega) (by omega), drop_cons default hi]
   simp [nibs, key]
  ·rw [bif_false (decide_eq_false (by omega)), List.drop_eq_nil_of_le (by omega)]
   simp [nibs]
theorem Build_ok {l : List Pair} (hm : MayP l) (hl : l.length < 1000000) : trie_Build.f l = some (tri l, true) := by
 unfold trie_Build.f
 rcases tmay_ok hl with ⟨-, h⟩ | ⟨h, -⟩
 ·rw [h, Option.bind_some, bif_false (c := !true) rfl]
  have h2 : trie_Build.l0 l BIG (([] : List ByteArray), 0) = some ([] ++ nibs (l.drop 0)) := build_l0 hm hl BIG 0 [] (by have := BIG_ge; omega) rfl (by omega)
  rw [h2, Option.bind_some]
  by_cases he : l = []
  ·subst he
   simp [tri]
  ·have h0 : 0 < l.length := List.length_pos_iff.mpr he
   rw [bif_true (by simp; omega)]
   have := build_ok (in_nibs hm hl) 17 0 l.length 0 BIG [] (rg0 hm h0) (by omega) (by have := BIG_ge; omega) (by simp; omega)
   simp only [Int.natCast_zero, List.nil_append, List.length_nil, Int.ofNat_zero] at this
   simp only [List.drop_zero, List.nil_append]
   have h3 : trie_builder_build.f BIG l (nibs l) [] 0 (l.length : Int) 0 = some (0, (mk (nibs l) l 17 0 l.length 0).flat 0) := this
   rw [h3]
   simp [tri, tre, he]
 ·exact absurd hm h
theorem Build2_ok {l : List Pair} (hm : MayP l) (hl : l.length < 1000000) : ref10_Build.f l = some ⟨tri l, trp l, true⟩ := by
 unfold ref10_Build.f
 rcases may_ok hl with ⟨-, h⟩ | ⟨h, -⟩
 ·rw [h, Option.bind_some, bif_false (c := !true) rfl]
  have h2 : ref10_Build.l0 l BIG (([] : List ByteArray), 0) = some ([] ++ nibs (l.drop 0)) := build2_l0 hm hl BIG 0 [] (by have := BIG_ge; omega) rfl (by omega)
  rw [h2, Option.bind_some]
  by_cases he : l = []
  ·subst he
   simp [tri, trp]
  ·have h0 : 0 < l.length := List.length_pos_iff.mpr he
   rw [bif_true (by simp; omega)]
   have := add_ok (in_nibs hm hl) 17 0 l.length 0 BIG [] [] (rg0 hm h0) (by omega) (by have := BIG_ge; omega) (by simp; omega) rfl
   have e : pre (nibs l) 0 0 = ⟨#[]⟩ := by
    apply B_inj
    rw [B_pre, B_empty, List.take_zero]
   rw [e] at this
   simp only [List.nil_append, List.length_nil] at this
   simp only [List.drop_zero, List.nil_append]
   have h3 : ref10_maker_add.f BIG l (nibs l) [] [] 0 (l.length : Int) 0 = some (0, (mk (nibs l) l 17 0 l.length 0).flat 0, (mk (nibs l) l 17 0 l.length 0).paths ⟨#[]⟩) := this
   rw [h3]
   simp [tri, trp, tre, he]
 ·exact absurd hm h
end Go.Lf
/- Nibbles packed into bytes. -/
set_option linter.unusedVariables false
set_option linter.unusedSimpArgs false
namespace Go.Lf
open Go
def pk : List Nat → List Nat
 | [] => []
 | [a] => [16 * a]
 | a :: b :: r => (16 * a + b) :: pk r
def Sml (x : ByteArray) : Prop := ∀ b ∈ B x, b < 16
theorem pk_lt : ∀ {x : List Nat}, (∀ b ∈ x, b < 16) → ∀ b ∈ pk x, b < 256
 | [], _, b, h => by simp [pk] at h
 | [a], h, b, hb => by
  have := h a (by simp)
  simp [pk] at hb
  omega
 | a :: c :: r, h, b, hb => by
  have h1 := h a (by simp)
  have h2 := h c (by simp)
  simp only [pk, List.mem_cons] at hb
  rcases hb with rfl | hb
  ·omega
  ·exact pk_lt (fun b hb => h b (by simp [hb])) b hb
theorem pk_len : ∀ x : List Nat, (pk x).length = (x.length + 1) / 2
 | [] => rfl
 | [a] => by simp [pk]
 | a :: b :: r => by
  simp only [pk, List.length_cons, pk_len r]
  omega
theorem pk_nbl : ∀ {x : List Nat}, pk (nbl x) = x
 | [] => rfl
 | a :: x => by
  have := pk_nbl (x := x)
  simp only [nbl, List.flatMap_cons, List.cons_append, List.nil_append, pk] at *
  rw [this]
  congr 1
  omega
theorem small_l0 {s : ByteArray} (hs : s.size < 1000000) : ∀ (fuel i : Nat), s.size - i < fuel → ((∀ b ∈ (B s).drop i, b < 16) ∧ nibble_small.l0 s fuel i = some (.inl ())) ∨ ((¬ ∀ b ∈ (B s).drop i, b < 16) ∧ nibble_small.l0 s fuel i = some (.inr false))
 | 0, i, h => by omega
 | fuel + 1, i, h => by
  rw [nibble_small.l0]
  rcases Nat.lt_or_ge i s.size with hi | hi
  ·have g : 0 ≤ (i : Int) ∧ (i : Int) < (s.size : Int) := by omega
   rw [bif_true (decide_eq_true g.2), gd_pos g, bt_lt, w64_nat (x := (i : Int) + 1) (k := i + 1) (by simp) (by omega), drop_cons (x := B s) (i := i) 0 (by rw [B_len]; omega)]
   by_cases hb : 15 < (B s).getD i 0
   ·rw [bif_true (decide_eq_true (by omega))]
    refine .inr ⟨fun h => ?_, rfl⟩
    have := h _ (List.mem_cons_self ..)
    omega
   ·rw [bif_false (decide_eq_false (by omega))]
    rcases small_l0 hs fuel (i + 1) (by omega) with ⟨h1, h2⟩ | ⟨h1, h2⟩
    ·refine .inl ⟨fun b hb => ?_, h2⟩
     rcases List.mem_cons.mp hb with rfl | hb
     ·omega
     ·exact h1 b hb
    ·exact .inr ⟨fun h => h1 fun b hb => h b (List.mem_cons_of_mem _ hb), h2⟩
  ·rw [bif_false (decide_eq_false (by omega)), List.drop_eq_nil_of_le (by rw [B_len]; omega)]
   exact .inl ⟨by simp, rfl⟩
theorem small_ok {s : ByteArray} (hs : s.size < 1000000) : (Sml s ∧ nibble_small.f s = some true) ∨ (¬ Sml s ∧ nibble_small.f s = some false) := by
 unfold nibble_small.f Sml
 have h := small_l0 hs BIG 0 (by have := BIG_ge; omega)
 rw [List.drop_zero, show ((0 : Nat) : Int) = 0 from rfl] at h
 rcases h with ⟨h1, h2⟩ | ⟨h1, h2⟩
 ·exact .inl ⟨h1, by rw [h2]; rfl⟩
 ·exact .inr ⟨h1, by rw [h2]; rfl⟩
theorem or_hi {a : Nat} (h : a < 16) : bor .u8 0 (shl .u8 (a : Int) 4) = ((16 * a : Nat) : Int) := by
 have : ∀ a : Fin 16, bor .u8 0 (shl .u8 ((a.val : Nat) : Int) 4) = ((16 * a.val : Nat) : Int) := by decide +kernel
 exact this ⟨a, h⟩
theorem or_lo {a b : Nat} (h : a < 16) (h' : b < 16) : bor .u8 ((16 * a : Nat) : Int) (shl .u8 (b : Int) 0) = ((16 * a + b : Nat) : Int) := by
 have : ∀ a b : Fin 16, bor .u8 ((16 * a.val : Nat) : Int) (shl .u8 ((b.val : Nat) : Int) 0) = ((16 * a.val + b.val : Nat) : Int) := by decide +kernel
 exact this ⟨a, h⟩ ⟨b, h'⟩
def casts (x : List Nat) : List Int := x.map fun b => ((b : Nat) : Int)
theorem gtI_end (D r : List Int) (x : Int) (j : Nat) (h : D.length = j) : gt (D ++ x :: r) (j : Int) = x := by subst h; simp [gt]
theorem setI_end (D r : List Int) (x y : Int) (j : Nat) (h : D.length = j) : (D ++ x :: r).set ((j : Int)).toNat y = D ++ y :: r := by subst h; simp
theorem get_small {s : ByteArray} (h : Sml s) {i : Nat} (hi : i < s.size) : (B s).getD i 0 < 16 := by
 have h' : i < (B s).length := by rw [B_len]; exact hi
 rw [List.getD_eq_getElem?_getD, List.getElem?_eq_getElem h', Option.getD_some]
 exact h _ (List.getElem_mem h')
theorem two_l0 {s : ByteArray} (hs : s.size < 1000000) (hm : Sml s) : ∀ (m j fuel : Nat) (D : List Int), s.size - 2 * j ≤ m → 2 * j ≤ s.size + 1 → s.size - 2 * j < fuel → D.length = j →
  nibble_two.l0 s fuel (D ++ List.replicate ((s.size + 1) / 2 - j) 0, ((2 * j : Nat) : Int)) = some (D ++ casts (pk ((B s).drop (2 * j))))
 | m, j, 0, D, _, _, h, _ => by omega
 | m, j, fuel + 1, D, hm', hj, h, hD => by
  rw [nibble_two.l0]
  rcases Nat.lt_or_ge (2 * j) s.size with hi | hi
  ·have g : 0 ≤ ((2 * j : Nat) : Int) ∧ ((2 * j : Nat) : Int) < (s.size : Int) := by omega
   obtain ⟨m, rfl⟩ : ∃ m', m = m' + 1 := ⟨m - 1, by omega⟩
   obtain ⟨r, hr⟩ : ∃ r, (s.size + 1) / 2 - j = r + 1 := ⟨(s.size + 1) / 2 - j - 1, by omega⟩
   have ha := get_small hm hi
   have e1 : (((2 * j : Nat) : Int)).tmod 2 = 0 := by rw [Int.tmod_eq_emod_of_nonneg (by omega)]; omega
   have e2 : w64 ((((2 * j : Nat) : Int)).tdiv 2) = (j : Int) := by
    rw [show (((2 * j : Nat) : Int)).tdiv 2 = (j : Int) by rw [Int.tdiv_eq_ediv_of_nonneg (by omega)]; omega]
    exact w64_nat rfl (by omega)
   have e3 : vg (#v[4, 0] : Vector Int 2) 0 = 4 := rfl
   rw [bif_true (decide_eq_true g.2), e1, e2, gd_pos (by omega), gd_pos (by simp; omega), gd_pos g, e3, gd_pos (by omega), gd_pos (by simp; omega)]
   rw [hr, List.replicate_succ, gtI_end _ _ _ _ hD, setI_end _ _ _ _ _ hD, bt_lt, or_hi ha, w64_nat (x := ((2 * j : Nat) : Int) + 1) (k := 2 * j + 1) (by simp) (by omega)]
   obtain ⟨fuel, rfl⟩ : ∃ f', fuel = f' + 1 := ⟨fuel - 1, by omega⟩
   rw [nibble_two.l0, drop_cons (x := B s) (i := 2 * j) 0 (by rw [B_len]; omega)]
   rcases Nat.lt_or_ge (2 * j + 1) s.size with hi2 | hi2
   ·have g2 : 0 ≤ ((2 * j + 1 : Nat) : Int) ∧ ((2 * j + 1 : Nat) : Int) < (s.size : Int) := by omega
    have hb := get_small hm hi2
    have e4 : (((2 * j + 1 : Nat) : Int)).tmod 2 = 1 := by rw [Int.tmod_eq_emod_of_nonneg (by omega)]; omega
    have e5 : w64 ((((2 * j + 1 : Nat) : Int)).tdiv 2) = (j : Int) := by
     rw [show (((2 * j + 1 : Nat) : Int)).tdiv 2 = (j : Int) by rw [Int.tdiv_eq_ediv_of_nonneg (by omega)]; omega]
     exact w64_nat rfl (by omega)
    have e6 : vg (#v[4, 0] : Vector Int 2) 1 = 0 := rfl
    rw [bif_true (decide_eq_true g2.2), e4, e5, gd_pos (by omega), gd_pos (by simp; omega), gd_pos g2, e6, gd_pos (by omega), gd_pos (by simp; omega)]
    rw [gtI_end _ _ _ _ hD, setI_end _ _ _ _ _ hD, bt_lt, or_lo ha hb, w64_nat (x := ((2 * j + 1 : Nat) : Int) + 1) (k := 2 * (j + 1)) (by omega) (by omega)]
    have hh := two_l0 hs hm m (j + 1) fuel (D ++ [((16 * (B s).getD (2 * j) 0 + (B s).getD (2 * j + 1) 0 : Nat) : Int)]) (by omega) (by omega) (by omega) (by simp; omega)
    rw [show (s.size + 1) / 2 - (j + 1) = r by omega] at hh
    simp only [List.append_assoc, List.singleton_append] at hh
    rw [hh, drop_cons (x := B s) (i := 2 * j + 1) 0 (by rw [B_len]; omega)]
    simp [pk, casts, Nat.mul_add]
   ·rw [bif_false (decide_eq_false (by omega)), List.drop_eq_nil_of_le (by rw [B_len]; omega)]
    have : r = 0 := by omega
    subst this
    simp [pk, casts]
  ·rw [bif_false (decide_eq_false (by omega)), List.drop_eq_nil_of_le (by rw [B_len]; omega)]
   have : (s.size + 1) / 2 - j = 0 := by omega
   rw [this]
   simp [pk, casts]
/-- The packed bytes of a text of nibbles. -/
def pck (s : ByteArray) : ByteArray := S (pk (B s))
theorem B_pck {s : ByteArray} (h : Sml s) : B (pck s) = pk (B s) := B_S (pk_lt h)
theorem two_ok {s : ByteArray} (hs : s.size < 1000000) (hm : Sml s) : nibble_two.f s = some (pck s) := by
 unfold nibble_two.f
 have e : w64 ((w64 ((s.size : Int) + 1)).tdiv 2) = (((s.size + 1) / 2 : Nat) : Int) := by
  rw [w64_nat (x := (s.size : Int) + 1) (k := s.size + 1) (by simp) (by omega)]
  rw [show (((s.size + 1 : Nat) : Int)).tdiv 2 = (((s.size + 1) / 2 : Nat) : Int) by rw [Int.tdiv_eq_ediv_of_nonneg (by omega)]; omega]
  exact w64_nat rfl (by omega)
 rw [e, gd_pos (by omega)]
 have h := two_l0 hs hm s.size 0 BIG [] (by omega) (by omega) (by have := BIG_ge; omega) rfl
 simp only [List.nil_append, Nat.mul_zero, Nat.sub_zero, List.drop_zero] at h
 rw [show ((0 : Nat) : Int) = 0 from rfl] at h
 rw [Int.toNat_natCast, h, Option.bind_some]
 congr 1
 apply B_inj
 have hlt := pk_lt hm
 rw [B_pck hm, B_strOfNums]
 ·simp [casts, Function.comp_def]
 ·intro x hx
  simp only [casts, List.mem_map] at hx
  obtain ⟨b, hb, rfl⟩ := hx
  have := hlt b hb
  omega
theorem key_ok {s : ByteArray} (hs : s.size < 1000000) : (s.size % 2 = 0 ∧ Sml s ∧ nibble_Key.f s = some (pck s, true)) ∨ (¬ (s.size % 2 = 0 ∧ Sml s) ∧ nibble_Key.f s = some (⟨#[]⟩, false)) := by
 unfold nibble_Key.f
 have e : ((s.size : Int)).tmod 2 = ((s.size % 2 : Nat) : Int) := by rw [Int.tmod_eq_emod_of_nonneg (by omega)]; omega
 rw [e]
 by_cases h : s.size % 2 = 0
 ·rw [h, bif_false (c := ((0 : Nat) : Int) != 0) rfl]
  rcases small_ok hs with ⟨h1, h2⟩ | ⟨h1, h2⟩
  ·rw [h2, Option.bind_some, Option.bind_some, bif_false (c := !true) rfl, two_ok hs h1]
   exact .inl ⟨rfl, h1, rfl⟩
  ·rw [h2, Option.bind_some, Option.bind_some, bif_true (c := !false) rfl]
   exact .inr ⟨fun h => h1 h.2, rfl⟩
 ·have : s.size % 2 = 1 := by omega
  rw [this, bif_true (c := ((1 : Nat) : Int) != 0) rfl, Option.bind_some, bif_true rfl]
  exact .inr ⟨fun h => by omega, rfl⟩
theorem sml_nib (s : ByteArray) : Sml (nib s) := by
 intro b hb
 rw [B_nib] at hb
 exact nbl_lt (fun b h => B_lt h) b hb
theorem pck_nib (s : ByteArray) : pck (nib s) = s := by
 apply B_inj
 rw [B_pck (sml_nib s), B_nib, pk_nbl]
end Go.Lf
/- The walk over a trie finds its pairs and its paths. -/
set_option linter.unusedVariables false
set_option linter.unusedSimpArgs false
namespace Go.Lf
open Go
mutual
/-- The nibble texts with their values. -/
def T.prs : T → ByteArray → List (ByteArray × ByteArray)
 | .node l ks, p => (if l.has then [(p ++ l.path, l.value)] else []) ++ ks.prs (p ++ l.path) (l.kind == 3)
def Ks.prs : Ks → ByteArray → Bool → List (ByteArray × ByteArray)
 | .nil, _, _ => []
 | .cons c t ks, p, b => t.prs (if b then p ++ strOfNums [(c : Int)] else p) ++ ks.prs p b
end
mutual
/-- A trie that the walk takes. -/
def T.wf : T → ByteArray → Prop
 | .node l ks, p => p.size ≤ 16 ∧ l.path.size ≤ 1000 ∧ (l.has = true → (p ++ l.path).size % 2 = 0 ∧ Sml (p ++ l.path)) ∧ ks.up 0 ∧ ks.wf (p ++ l.path) (l.kind == 3)
def Ks.wf : Ks → ByteArray → Bool → Prop
 | .nil, _, _ => True
 | .cons c t ks, p, b => t.wf (if b then p ++ strOfNums [(c : Int)] else p) ∧ ks.wf p b
end
mutual
theorem T.prs_len : ∀ (t : T) (p : ByteArray), (t.prs p).length ≤ t.sz
 | .node l ks, p => by
  have := Ks.prs_len ks (p ++ l.path) (l.kind == 3)
  rw [T.prs, T.sz, List.length_append]
  split <;> simp <;> omega
theorem Ks.prs_len : ∀ (ks : Ks) (p : ByteArray) (b : Bool), (ks.prs p b).length ≤ ks.sz
 | .nil, p, b => by simp [Ks.prs, Ks.sz]
 | .cons c t ks, p, b => by
  have h1 := T.prs_len t (if b then p ++ strOfNums [(c : Int)] else p)
  have h2 := Ks.prs_len ks p b
  rw [Ks.prs, Ks.sz, List.length_append]
  omega
end
def prp (x : ByteArray × ByteArray) : Pair := ⟨pck x.1, x.2⟩
/-- Each child's fact, at its place and with what leads to it. -/
def Ks.each (R : T → Nat → ByteArray → Prop) : Ks → Nat → ByteArray → Bool → Prop
 | .nil, _, _, _ => True
 | .cons c t ks, b, p, br => R t b (if br then p ++ strOfNums [(c : Int)] else p) ∧ ks.each R (b + t.sz) p br
theorem app_size (x y : ByteArray) : (x ++ y).size = x.size + y.size := by rw [← B_len, B_append, List.length_append, B_len, B_len]
abbrev Rec := (List Node) → Int → (List Pair) → (List ByteArray) → Int → ByteArray → Option (Bool × Int × List Pair × List ByteArray)
def WalkR (a : List Node) (rc : Rec) (t : T) (b : Nat) (p : ByteArray) : Prop :=
 ∀ (L : List Pair) (ps : List ByteArray), L.length ≤ b → ps.length = b → rc a (b : Int) L ps (b : Int) p = some (true, ((b + t.sz : Nat) : Int), L ++ (t.prs p).map prp, ps ++ t.paths p)
theorem walk_l0 {a : List Node} {f : Nat} {p : ByteArray} {rc : Rec} {q : ByteArray} (hq : q = p ++ (gt a (f : Int)).path_) (hqs : q.size ≤ 2000) {br : Bool} (hbr : ((gt a (f : Int)).kind_ == 3) = br) (ha : a.length ≤ 1000000000) :
  ∀ (fuel m : Nat) (ks : Ks) (bk : Nat) (L : List Pair) (ps : List ByteArray), 16 - m < fuel → m ≤ 16 → ks.at bk (gt a (f : Int)).kids_ m → 0 < bk → ks.each (WalkR a rc) bk q br → L.length ≤ bk → ps.length = bk →
   trie_walker_walk.l0 a f p rc fuel (L, ps, bk, m) = some (.inl (L ++ (ks.prs q br).map prp, ps ++ ks.paths q br, ((bk + ks.sz : Nat) : Int)))
 | 0, m, ks, bk, L, ps, h, _, _, _, _, _, _ => by omega
 | fuel + 1, m, ks, bk, L, ps, h, hm, hat, hb0, he, hL, hps => by
  rw [trie_walker_walk.l0]
  rcases Nat.lt_or_ge m 16 with h16 | h16
  ·rw [bif_true (decide_eq_true (by omega)), gd_pos (by omega), ← hq]
   have hc : (bif (gt a (f : Int)).kind_ == 3 then
      gd (q.size + (strOfNums [wu8 (m : Int)]).size ≤ 9223372036854775807) <|
      some (q ++ (strOfNums [wu8 (m : Int)]))
     else
      some q) = some (if br then q ++ strOfNums [(m : Int)] else q) := by
    rw [wu8_id (x := (m : Int)) (by omega), hbr]
    cases br
    ·rfl
    ·rw [bif_true rfl, gd_pos (by rw [strOfNums_size]; simp; omega)]; rfl
   rw [hc, Option.bind_some, w64_nat (x := (m : Int) + 1) (k := m + 1) (by simp) (by omega)]
   rcases Ks.at_step hat h16 with ⟨h0, hat'⟩ | ⟨t, r, rfl, h0, hat'⟩
   ·rw [h0, bif_false (c := (0 : Int) != 0) rfl]
    simp only [Option.bind_some]
    rw [bif_false rfl]
    exact walk_l0 hq hqs hbr ha fuel (m + 1) ks bk L ps (by omega) (by omega) hat' hb0 he hL hps
   ·rw [h0, bif_true (c := (bk : Int) != 0) (by simp; omega)]
    obtain ⟨h1, h2⟩ := he
    rw [h1 L ps hL hps]
    simp only [Option.bind_some, Bool.not_true]
    rw [bif_false rfl]
    have hlen := T.prs_len t (if br then q ++ strOfNums [(m : Int)] else q)
    rw [walk_l0 hq hqs hbr ha fuel (m + 1) r (bk + t.sz) _ _ (by omega) (by omega) hat' (by omega) h2 (by simp; omega) (by simp [T.paths_len]; omega)]
    simp [Ks.prs, Ks.paths, Ks.sz, Nat.add_assoc]
  ·rw [bif_false (decide_eq_false (by omega))]
   have : ks = .nil := by
    cases ks with
    | nil => rfl
    | cons c t r =>
     obtain ⟨h1, h2, -⟩ := hat
     omega
   subst this
   simp [Ks.prs, Ks.paths, Ks.sz]
mutual
theorem T.walk : ∀ (t : T) (b : Nat) (p : ByteArray) (kk : Nat) (a pre post : List Node), a = pre ++ (t.flat b ++ post) → pre.length = b → t.wf p → t.sz ≤ kk → a.length ≤ 1000000000 → WalkR a (trie_walker_walk.f kk) t b p
 | .node l ks, b, p, 0, a, pre, post, hae, hb, hw, hk, ha => by
  have := T.sz_pos (.node l ks)
  omega
 | .node l ks, b, p, kk + 1, a, pre, post, hae, hb, hw, hk, ha => by
  intro L ps hL hps
  obtain ⟨w1, w2, w3, w4, w5⟩ := hw
  have hal : a.length = pre.length + ((T.node l ks).sz + post.length) := by rw [hae]; simp [T.flat_len]
  have hsz : (T.node l ks).sz = ks.sz + 1 := rfl
  rw [trie_walker_walk.f]
  have hg : gt a (b : Int) = l.node (ks.vec (b + 1) v0) := by
   rw [hae, ← hb, T.flat, List.cons_append]
   exact gt_end _ _ _
  have c1 : (bif (b : Int) != (b : Int) then some true else bif decide ((b : Int) ≥ (a.length : Int)) then some true else some (decide ((p.size : Int) > 16))) = some false := by
   rw [bif_false (by simp), bif_false (decide_eq_false (by omega)), decide_eq_false (by omega)]
  rw [c1, Option.bind_some, bif_false rfl, gd_pos (by omega), gd_pos (by omega), w64_nat (x := (b : Int) + 1) (k := b + 1) (by simp) (by omega)]
  have hp : (gt a (b : Int)).path_ = l.path := by rw [hg]; rfl
  have hh : (gt a (b : Int)).has_ = l.has := by rw [hg]; rfl
  have hv : (gt a (b : Int)).value_ = l.value := by rw [hg]; rfl
  have hki : (gt a (b : Int)).kids_ = ks.vec (b + 1) v0 := by rw [hg]; rfl
  have hkd : ((gt a (b : Int)).kind_ == 3) = (l.kind == 3) := by rw [hg]; rfl
  rw [gd_pos (by rw [hp]; omega), hh]
  have hqs : (p ++ l.path).size ≤ 2000 := by rw [app_size]; omega
  have heach : ks.each (WalkR a (trie_walker_walk.f kk)) (b + 1) (p ++ l.path) (l.kind == 3) :=
   Ks.walk ks (b + 1) (p ++ l.path) (l.kind == 3) kk a (pre ++ [l.node (ks.vec (b + 1) v0)]) post (by rw [hae, T.flat]; simp) (by simp [hb]) w5 (by omega) ha
  have hat : ks.at (b + 1) (gt a (b : Int)).kids_ 0 := by rw [hki]; exact Ks.at_vec0 w4
  have step : ∀ (L' : List Pair), L'.length ≤ b + 1 → trie_walker_walk.l0 a (b : Int) p (trie_walker_walk.f kk) BIG (L', ps ++ [p], ((b + 1 : Nat) : Int), 0) = some (.inl (L' ++ (ks.prs (p ++ l.path) (l.kind == 3)).map prp, ps ++ (T.node l ks).paths p, ((b + (T.node l ks).sz : Nat) : Int))) := by
   intro L' hL'
   have h := walk_l0 (a := a) (f := b) (p := p) (rc := trie_walker_walk.f kk) (q := p ++ l.path) (by rw [hp]) hqs hkd ha BIG 0 ks (b + 1) L' (ps ++ [p]) (by have := BIG_ge; omega) (by omega) hat (by omega) heach hL' (by simp; omega)
   rw [show ((0 : Nat) : Int) = 0 from rfl] at h
   rw [h]
   simp [T.paths, hsz, Nat.add_assoc, Nat.add_comm 1]
  cases hhas : l.has
  ·rw [bif_false rfl]
   simp only [Option.bind_some]
   rw [bif_false rfl, step L (by omega)]
   simp [T.prs, hhas]
  ·rw [bif_true rfl, hp, hv]
   unfold trie_walker_pair.f
   obtain ⟨e1, e2⟩ := w3 hhas
   rcases key_ok (s := p ++ l.path) (by omega) with ⟨-, -, h3⟩ | ⟨h3, -⟩
   ·rw [h3]
    simp only [Option.bind_some]
    rw [gd_pos (by omega)]
    simp only [Option.bind_some, Bool.not_true]
    rw [bif_false rfl, step _ (by simp; omega)]
    simp [T.prs, hhas, prp]
   ·exact absurd ⟨e1, e2⟩ h3
theorem Ks.walk : ∀ (ks : Ks) (b : Nat) (p : ByteArray) (br : Bool) (kk : Nat) (a pre post : List Node), a = pre ++ (ks.flat b ++ post) → pre.length = b → ks.wf p br → ks.sz ≤ kk → a.length ≤ 1000000000 → ks.each (WalkR a (trie_walker_walk.f kk)) b p br
 | .nil, b, p, br, kk, a, pre, post, _, _, _, _, _ => trivial
 | .cons c t ks, b, p, br, kk, a, pre, post, hae, hb, hw, hk, ha => by
  have hsz : (Ks.cons c t ks).sz = t.sz + ks.sz := rfl
  refine ⟨T.walk t b _ kk a pre (ks.flat (b + t.sz) ++ post) (by rw [hae, Ks.flat]; simp) hb hw.1 (by omega) ha, ?_⟩
  exact Ks.walk ks (b + t.sz) p br kk a (pre ++ t.flat b) post (by rw [hae, Ks.flat]; simp) (by simp [hb, T.flat_len]) hw.2 (by omega) ha
end
end Go.Lf
/- The trie of pairs is one that the walk takes; it finds the pairs again. So it is Good. -/
set_option linter.unusedVariables false
set_option linter.unusedSimpArgs false
namespace Go.Lf
open Go
variable {n : List ByteArray} {l : List Pair}
theorem pre_size (n : List ByteArray) (i d : Nat) : (pre n i d).size ≤ d := by
 rw [← B_len, B_pre, List.length_take]
 omega
theorem pre_tail {f d : Nat} (h : d ≤ (nb n f).length) : pre n f d ++ sub (tx n f) (d : Int) ((tx n f).size : Int) = tx n f := by
 apply B_inj
 rw [B_append, B_pre, sub_tail]
 exact List.take_append_drop ..
theorem pre_mid {f d c : Nat} : pre n f d ++ sub (tx n f) (d : Int) ((d + c : Nat) : Int) = pre n f (d + c) := by
 apply B_inj
 rw [B_append, B_pre, B_pre, B_sub]
 simp only [Int.toNat_natCast, nb]
 rw [show (B (tx n f)).take d = ((B (tx n f)).take (d + c)).take d by rw [List.take_take, Nat.min_eq_left (by omega)], List.take_append_drop]
theorem app_nil (p : ByteArray) : p ++ (⟨#[]⟩ : ByteArray) = p := by
 apply B_inj
 rw [B_append, B_empty, List.append_nil]
theorem pre_all {f d : Nat} (h : (nb n f).length = d) : pre n f d = tx n f := by
 apply B_inj
 rw [B_pre, ← h, List.take_length]
 rfl
def ent (n : List ByteArray) (l : List Pair) (i : Nat) : ByteArray × ByteArray := (tx n i, val l i)
/-- What the texts are besides: of even length, of nibbles. -/
def Evn (n : List ByteArray) : Prop := ∀ i, i < n.length → (nb n i).length % 2 = 0 ∧ Sml (tx n i)
theorem mkKs_prs (hI : In n l) {f t d k : Nat} (hR : Rg n f t d)
  (hg : ∀ i j, Rg n i j (d + 1) → (mk n l k i j (d + 1)).wf (pre n i (d + 1)) ∧ (mk n l k i j (d + 1)).prs (pre n i (d + 1)) = (List.range' i (j - i)).map (ent n l)) :
  ∀ (m i : Nat), t - i ≤ m → (f < i ∨ d < (nb n f).length ∧ f ≤ i) → i ≤ t →
   (mkKs n (fun i j => mk n l k i j (d + 1)) d t m i).wf (pre n f d) true ∧ (mkKs n (fun i j => mk n l k i j (d + 1)) d t m i).prs (pre n f d) true = (List.range' i (t - i)).map (ent n l)
 | 0, i, hm, hi, hit => by
  have : t - i = 0 := by omega
  rw [this]
  exact ⟨trivial, rfl⟩
 | m + 1, i, hm, hi, hit => by
  have hle := hR.le
  rw [mkKs]
  split
  ·rename_i ht
   have hgt := run_gt (n := n) (d := d) ht
   have hrl := run_le (n := n) (d := d) (Nat.le_of_lt ht)
   have hb := hI.nib i (by omega) d
   have h1 := hR.go hI.srt hi ht
   have he : pre n f d ++ strOfNums [((byteAt n i d : Nat) : Int)] = pre n i (d + 1) := pre_step (by rw [hR.same i (by omega) ht]) h1 (by omega)
   obtain ⟨g1, g2⟩ := hg i (run n d t i) (hR.run hI.srt hi ht)
   obtain ⟨r1, r2⟩ := mkKs_prs hI hR hg m (run n d t i) (by omega) (by omega) hrl
   rw [Ks.wf, Ks.prs]
   simp only [if_true]
   rw [he, g2, r2, ← List.map_append]
   refine ⟨⟨g1, r1⟩, ?_⟩
   rw [show t - i = (run n d t i - i) + (t - run n d t i) by omega, ← List.range'_append_1 (s := i)]
   congr 2
   rw [show i + (run n d t i - i) = run n d t i by omega]
  ·have : t - i = 0 := by omega
   rw [this]
   exact ⟨trivial, rfl⟩
theorem mk_prs (hI : In n l) (hE : Evn n) : ∀ (k f t d : Nat), Rg n f t d → 17 ≤ d + k → (mk n l k f t d).wf (pre n f d) ∧ (mk n l k f t d).prs (pre n f d) = (List.range' f (t - f)).map (ent n l)
 | 0, f, t, d, hR, hd => by
  have := hI.short f (by have := hR.lt; have := hR.le; omega)
  have := hR.long f (Nat.le_refl _) hR.lt
  omega
 | k + 1, f, t, d, hR, hd => by
  have hlt := hR.lt
  have hle := hR.le
  have hsh := hI.short f (by omega)
  have hlo := hR.long f (Nat.le_refl _) hlt
  have hps := pre_size n f d
  obtain ⟨hev, hsm⟩ := hE f (by omega)
  rw [mk]
  by_cases h1 : t = f + 1
  ·rw [if_pos h1]
   simp only [T.wf, T.prs, Ks.wf, Ks.up, Ks.prs]
   rw [pre_tail hlo]
   refine ⟨⟨by omega, ?_, fun _ => ⟨by rw [size_nb]; exact hev, hsm⟩, trivial, trivial⟩, ?_⟩
   ·rw [sub_size _ _ _ (Nat.le_refl _), size_nb]; omega
   ·simp [h1, ent]
  ·rw [if_neg h1]
   by_cases h2 : 0 < comm ((nb n f).drop d) ((nb n (t - 1)).drop d)
   ·rw [if_pos h2]
    have hR2 := hR.comm hI.srt
    have hcl := comm_le_left ((nb n f).drop d) ((nb n (t - 1)).drop d)
    simp only [List.length_drop] at hcl
    generalize hc : comm ((nb n f).drop d) ((nb n (t - 1)).drop d) = c at h2 hR2 hcl ⊢
    obtain ⟨r1, r2⟩ := mk_prs hI hE k f t (d + c) hR2 (by omega)
    simp only [T.wf, T.prs, Ks.wf, Ks.up, Ks.prs]
    rw [pre_mid]
    refine ⟨⟨by omega, ?_, fun h => by simp at h, ⟨by omega, by omega, trivial⟩, ?_, trivial⟩, ?_⟩
    ·rw [sub_size _ _ _ (by rw [size_nb]; omega)]; omega
    ·simpa using r1
    ·simpa using r2
   ·rw [if_neg h2]
    have hg : ∀ i j, Rg n i j (d + 1) → (mk n l k i j (d + 1)).wf (pre n i (d + 1)) ∧ (mk n l k i j (d + 1)).prs (pre n i (d + 1)) = (List.range' i (j - i)).map (ent n l) :=
     fun i j h => mk_prs hI hE k i j (d + 1) h (by omega)
    have hlt16 : ∀ i, i < t → byteAt n i d < 16 := fun i hi => hI.nib i (by omega) d
    by_cases h3 : (nb n f).length = d
    ·rw [if_pos h3]
     obtain ⟨r1, r2⟩ := mkKs_prs hI hR hg (t - f) (f + 1) (by omega) (by omega) (by omega)
     simp only [T.wf, T.prs]
     rw [app_nil]
     refine ⟨⟨by omega, by decide, fun _ => ⟨?_, ?_⟩, mkKs_up hI.srt hR _ hlt16 _ _ (by omega) _ (fun _ => Nat.zero_le _), r1⟩, ?_⟩
     ·rw [pre_all h3, size_nb]; exact hev
     ·rw [pre_all h3]; exact hsm
     ·simp only [if_true]
      have : (3 == (3 : Int)) = true := rfl
      rw [this, r2, pre_all h3, show t - f = (t - (f + 1)) + 1 by omega, List.range'_succ]
      rfl
    ·rw [if_neg h3]
     obtain ⟨r1, r2⟩ := mkKs_prs hI hR hg (t - f) f (by omega) (by omega) (by omega)
     simp only [T.wf, T.prs]
     rw [app_nil]
     refine ⟨⟨by omega, by decide, fun h => by simp at h, mkKs_up hI.srt hR _ hlt16 _ _ (by omega) _ (fun _ => Nat.zero_le _), r1⟩, ?_⟩
     have : (3 == (3 : Int)) = true := rfl
     rw [this, r2]
     simp
theorem evn_nibs {l : List Pair} : Evn (nibs l) := by
 intro i hi
 have hi : i < l.length := by simpa [nibs] using hi
 refine ⟨by rw [nb_nibs hi, nbl_len]; omega, ?_⟩
 rw [tx_nibs hi]
 exact sml_nib _
theorem pre_zero : pre n 0 0 = ⟨#[]⟩ := by
 apply B_inj
 rw [B_pre, B_empty, List.take_zero]
theorem tre_wf (hm : MayP l) (hl : l.length < 1000000) (h0 : 0 < l.length) : (tre l).wf ⟨#[]⟩ := by
 have := (mk_prs (in_nibs hm hl) evn_nibs 17 0 l.length 0 (rg0 hm h0) (by omega)).1
 rwa [pre_zero] at this
theorem tre_prs (hm : MayP l) (hl : l.length < 1000000) (h0 : 0 < l.length) : ((tre l).prs ⟨#[]⟩).map prp = l := by
 have := (mk_prs (in_nibs hm hl) evn_nibs 17 0 l.length 0 (rg0 hm h0) (by omega)).2
 rw [pre_zero] at this
 have e : (tre l).prs ⟨#[]⟩ = (List.range' 0 (l.length - 0)).map (ent (nibs l) l) := this
 rw [e, List.map_map]
 apply List.ext_getElem
 ·simp
 ·intro i h1 h2
  simp only [List.getElem_map, List.getElem_range', Function.comp, prp, ent, Nat.one_mul, Nat.zero_add]
  rw [tx_nibs h2, pck_nib]
  simp [key, val, List.getD_eq_getElem?_getD, List.getElem?_eq_getElem h2]
theorem tre_sz (hl : l.length < 1000000) (h0 : 0 < l.length) : (tre l).sz ≤ 18 * l.length := by
 have := mk_sz (n := nibs l) (l := l) 17 0 l.length 0 h0
 exact this
theorem tri_len (h0 : 0 < l.length) : (tri l).length = (tre l).sz := by
 have : l ≠ [] := List.length_pos_iff.mp h0
 rw [tri, if_neg this, T.flat_len]
theorem same_l0 {a : List Node} (ha : a.length < 1000000000) : ∀ (fuel i : Nat), a.length - i < fuel → trie_Same.l0 a a fuel i = some (.inl ())
 | 0, i, h => by omega
 | fuel + 1, i, h => by
  rw [trie_Same.l0]
  rcases Nat.lt_or_ge i a.length with hi | hi
  ·have g : 0 ≤ (i : Int) ∧ (i : Int) < (a.length : Int) := by omega
   rw [bif_true (decide_eq_true g.2), gd_pos g, gd_pos g, w64_nat (x := (i : Int) + 1) (k := i + 1) (by simp) (by omega)]
   have : eq_Node (gt a (i : Int)) (gt a (i : Int)) = true := by simp [eq_Node]
   rw [this, bif_false (c := !true) rfl]
   exact same_l0 ha fuel (i + 1) (by omega)
  ·rw [bif_false (decide_eq_false (by omega))]
theorem same_ok {a : List Node} (ha : a.length < 1000000000) : trie_Same.f a a = some true := by
 unfold trie_Same.f
 rw [bif_false (c := (a.length : Int) != (a.length : Int)) (by simp)]
 have := same_l0 ha BIG 0 (by have := BIG_ge; omega)
 rw [show ((0 : Nat) : Int) = 0 from rfl] at this
 rw [this]
 rfl
/-- The walk over the trie of pairs. -/
theorem walked_ok (hm : MayP l) (hl : l.length < 10000) : trie_walked.f (tri l) = some (⟨tri l, ((tri l).length : Int), l, trp l⟩, true) := by
 unfold trie_walked.f
 by_cases he : l = []
 ·subst he
  have e : tri ([] : List Pair) = [] := rfl
  have h : trie_Build.f [] = some (([] : List Node), true) := by rw [← e]; exact Build_ok hm (by simp)
  rw [e]
  rw [bif_false (c := decide ((([] : List Node).length : Int) > 0)) rfl, Option.bind_some]
  simp only [bif_false (c := false) rfl]
  rw [h]
  simp only [Option.bind_some]
  rw [bif_true rfl, same_ok (by simp)]
  rfl
 ·have h0 : 0 < l.length := List.length_pos_iff.mpr he
  have hsz := tre_sz (by omega) h0
  have hlen := tri_len h0
  have hpos := T.sz_pos (tre l)
  have ht : tri l = (tre l).flat 0 := by rw [tri, if_neg he]
  have h := T.walk (tre l) 0 ⟨#[]⟩ BIG (tri l) [] [] (by rw [ht]; simp) rfl (tre_wf hm (by omega) h0) (by have := BIG_ge; omega) (by omega) [] [] (by simp) rfl
  rw [tre_prs hm (by omega) h0] at h
  simp only [List.nil_append, Nat.zero_add] at h
  rw [show ((0 : Nat) : Int) = 0 from rfl] at h
  rw [bif_true (c := decide (((tri l).length : Int) > 0)) (decide_eq_true (by omega)), h]
  simp only [Option.bind_some, Bool.not_true]
  rw [bif_false rfl, Build_ok hm (by omega)]
  simp only [Option.bind_some]
  rw [bif_true rfl, same_ok (by omega)]
  simp only [Option.bind_some]
  have e : trp l = (tre l).paths ⟨#[]⟩ := by rw [trp, if_neg he]
  rw [e, hlen]
theorem good_ok (hm : MayP l) (hl : l.length < 10000) : trie_Good.f (tri l) = some true := by
 unfold trie_Good.f
 rw [walked_ok hm hl]
 rfl
end Go.Lf
