import Derived.Test.YtckhmgglgbnaaaaGreatDoorM31
import Derived.Test.YtckhmgglgbnaaaaGreatDoorMA
/- Nodes that a trie may have; how a tree lies in a list; each place's tree. -/
set_option linter.unusedVariables false
set_option linter.unusedSimpArgs false
namespace Go.Lf
open Go
def Ks.cnt : Ks → Nat
 | .nil => 0
 | .cons _ _ ks => ks.cnt + 1
def Lab.good (l : Lab) : Prop := l.path.size ≤ 16 ∧ Sml l.path ∧ l.value.size ≤ 16
mutual
/-- A tree that a trie may have. -/
def T.fit : T → Prop
 | .node l ks => l.good ∧ ks.up 0 ∧ (l.has = false → l.value = ⟨#[]⟩) ∧ ((l.kind = 1 ∧ l.has = true ∧ ks = .nil) ∨ (l.kind = 2 ∧ l.has = false ∧ 0 < l.path.size ∧ ∃ t, ks = .cons 0 t .nil) ∨ (l.kind = 3 ∧ l.path = ⟨#[]⟩ ∧ (2 ≤ ks.cnt ∨ l.has = true ∧ 1 ≤ ks.cnt))) ∧ ks.fit
def Ks.fit : Ks → Prop
 | .nil => True
 | .cons _ t ks => t.fit ∧ ks.fit
end
section
variable {n : List ByteArray} {l : List Pair}
theorem sml_sub {s : ByteArray} (h : Sml s) (i j : Int) : Sml (sub s i j) := by
 intro b hb
 rw [B_sub] at hb
 exact h b (List.mem_of_mem_take (List.mem_of_mem_drop hb))
theorem sub_le (s : ByteArray) (i j : Int) : (sub s i j).size ≤ s.size := by
 rw [← B_len, B_sub, List.length_drop, List.length_take, B_len]
 omega
theorem sml_nil : Sml (⟨#[]⟩ : ByteArray) := by
 intro b hb
 rw [B_empty] at hb
 cases hb
theorem nil16 : (⟨#[]⟩ : ByteArray).size ≤ 16 := by decide
theorem mkKs_fit (hI : In n l) {f t d : Nat} (hR : Rg n f t d) {g : Nat → Nat → T} (hg : ∀ i j, Rg n i j (d + 1) → (g i j).fit) : ∀ m i, (f < i ∨ d < (nb n f).length ∧ f ≤ i) → (mkKs n g d t m i).fit
 | 0, i, _ => trivial
 | m + 1, i, hi => by
  unfold mkKs
  split
  ·rename_i h
   have hgt := run_gt (n := n) (d := d) h
   exact ⟨hg _ _ (hR.run hI.srt hi h), mkKs_fit hI hR hg m _ (by omega)⟩
  ·trivial
theorem mkKs_one {g : Nat → Nat → T} {d t m i : Nat} (hm : 0 < m) (hi : i < t) : 1 ≤ (mkKs n g d t m i).cnt := by
 obtain ⟨m, rfl⟩ : ∃ m', m = m' + 1 := ⟨m - 1, by omega⟩
 unfold mkKs
 rw [if_pos hi, Ks.cnt]
 omega
theorem mkKs_two {g : Nat → Nat → T} {d t m i : Nat} (hm : 1 < m) (hi : i < t) (hr : run n d t i < t) : 2 ≤ (mkKs n g d t m i).cnt := by
 obtain ⟨m, rfl⟩ : ∃ m', m = m' + 1 := ⟨m - 1, by omega⟩
 unfold mkKs
 rw [if_pos hi, Ks.cnt]
 have := mkKs_one (n := n) (g := g) (d := d) (m := m) (by omega) hr
 omega
theorem comm_pos {x y : List Nat} (hx : 0 < x.length) (hy : 0 < y.length) (h : x.getD 0 0 = y.getD 0 0) : 0 < comm x y := by
 cases x with
 | nil => simp at hx
 | cons a x =>
  cases y with
  | nil => simp at hy
  | cons b y =>
   simp only [List.getD_cons_zero] at h
   unfold comm
   rw [if_pos h]
   omega
theorem mk_fit (hI : In n l) (hE : Evn n) (hv : ∀ i, i < n.length → (val l i).size ≤ 16) : ∀ (k f t d : Nat), Rg n f t d → 17 ≤ d + k → (mk n l k f t d).fit
 | 0, f, t, d, hR, hd => by
  have := hI.short f (by have := hR.lt; have := hR.le; omega)
  have := hR.long f (Nat.le_refl _) hR.lt
  omega
 | k + 1, f, t, d, hR, hd => by
  have hlt := hR.lt
  have hle := hR.le
  have hsh := hI.short f (by omega)
  have hsz : (tx n f).size ≤ 16 := by rw [size_nb]; exact hsh
  have hlt16 : ∀ i, i < t → byteAt n i d < 16 := fun i hi => hI.nib i (by omega) d
  obtain ⟨-, hsm⟩ := hE f (by omega)
  rw [mk]
  by_cases h1 : t = f + 1
  ·rw [if_pos h1]
   exact ⟨⟨Nat.le_trans (sub_le _ _ _) hsz, sml_sub hsm _ _, hv f (by omega)⟩, trivial, fun h => by simp at h, .inl ⟨rfl, rfl, rfl⟩, trivial⟩
  ·rw [if_neg h1]
   by_cases h2 : 0 < comm ((nb n f).drop d) ((nb n (t - 1)).drop d)
   ·rw [if_pos h2]
    have hcl := comm_le_left ((nb n f).drop d) ((nb n (t - 1)).drop d)
    rw [List.length_drop] at hcl
    have hpos : 0 < (sub (tx n f) (d : Int) ((d + comm ((nb n f).drop d) ((nb n (t - 1)).drop d) : Nat) : Int)).size := by
     have e := size_nb n f
     rw [← B_len, B_sub, List.length_drop, List.length_take, B_len]
     omega
    refine ⟨⟨Nat.le_trans (sub_le _ _ _) hsz, sml_sub hsm _ _, nil16⟩, ⟨by omega, by omega, trivial⟩, fun _ => rfl, .inr (.inl ⟨rfl, rfl, hpos, _, rfl⟩), mk_fit hI hE hv k f t _ (hR.comm hI.srt) (by omega), trivial⟩
   ·rw [if_neg h2]
    have hg : ∀ i j, Rg n i j (d + 1) → (mk n l k i j (d + 1)).fit := fun i j h => mk_fit hI hE hv k i j (d + 1) h (by omega)
    by_cases h3 : (nb n f).length = d
    ·rw [if_pos h3]
     refine ⟨⟨nil16, sml_nil, hv f (by omega)⟩, mkKs_up hI.srt hR _ hlt16 _ _ (by omega) _ (fun _ => Nat.zero_le _), fun h => by simp at h, .inr (.inr ⟨rfl, rfl, .inr ⟨rfl, mkKs_one (by omega) (by omega)⟩⟩), mkKs_fit hI hR hg _ _ (by omega)⟩
    ·rw [if_neg h3]
     have hlong := hR.long f (Nat.le_refl _) hlt
     have hlong2 := hR.long (t - 1) (by omega) (by omega)
     have hgo := hR.go hI.srt (i := t - 1) (.inl (by omega)) (by omega)
     have hrun : run n d t f < t := by
      rcases Nat.lt_or_ge (run n d t f) t with h | h
      ·exact h
      ·have hall := runF_all (fun j => byteAt n j d == byteAt n f d) (t - f) f (t - 1) (by omega) (by unfold run at h; omega)
       have hb : byteAt n (t - 1) d = byteAt n f d := by simpa using hall
       exfalso
       apply h2
       apply comm_pos
       ·rw [List.length_drop]; omega
       ·rw [List.length_drop]; omega
       ·unfold byteAt at hb
        simp only [List.getD_eq_getElem?_getD, List.getElem?_drop, Nat.add_zero] at hb ⊢
        exact hb.symm
     refine ⟨⟨nil16, sml_nil, nil16⟩, mkKs_up hI.srt hR _ hlt16 _ _ (by omega) _ (fun _ => Nat.zero_le _), fun _ => rfl, .inr (.inr ⟨rfl, rfl, .inl (mkKs_two (by omega) hlt hrun)⟩), mkKs_fit hI hR hg _ _ (by omega)⟩
theorem tre_fit (hm : MayP l) (hl : l.length < 1000000) (h0 : 0 < l.length) : (tre l).fit := by
 have hlen : (nibs l).length = l.length := by simp [nibs]
 exact mk_fit (in_nibs hm hl) evn_nibs (fun i hi => (hm i (by omega)).2.2.1) 17 0 l.length 0 (rg0 hm h0) (by omega)
end
/-- A tree stands in a list of nodes at a place. -/
def Lies (a : List Node) (b : Nat) (t : T) : Prop := ∃ pre post, a = pre ++ (t.flat b ++ post) ∧ pre.length = b
theorem Lies.get {a : List Node} {b : Nat} {l : Lab} {ks : Ks} (h : Lies a b (.node l ks)) : gt a (b : Int) = l.node (ks.vec (b + 1) v0) := by
 obtain ⟨pre, post, rfl, rfl⟩ := h
 rw [T.flat, List.cons_append]
 exact gt_end _ _ _
theorem Lies.lt {a : List Node} {b : Nat} {t : T} (h : Lies a b t) : b + t.sz ≤ a.length := by
 obtain ⟨pre, post, rfl, rfl⟩ := h
 simp [T.flat_len]
mutual
/-- All trees beneath, in preorder. -/
def T.trs : T → List T
 | .node l ks => .node l ks :: ks.trs
def Ks.trs : Ks → List T
 | .nil => []
 | .cons _ t ks => t.trs ++ ks.trs
end
mutual
theorem T.trs_len : ∀ t : T, t.trs.length = t.sz
 | .node l ks => by simp [T.trs, T.sz, Ks.trs_len ks]
theorem Ks.trs_len : ∀ ks : Ks, ks.trs.length = ks.sz
 | .nil => rfl
 | .cons _ t ks => by simp [Ks.trs, Ks.sz, T.trs_len t, Ks.trs_len ks]
end
def LiesT (L : List T) (b : Nat) (t : T) : Prop := ∃ pre post, L = pre ++ (t.trs ++ post) ∧ pre.length = b
theorem LiesT.get {L : List T} {b : Nat} {t : T} (h : LiesT L b t) : L[b]? = some t := by
 obtain ⟨pre, post, rfl, rfl⟩ := h
 obtain ⟨l, ks⟩ := t
 simp [T.trs]
def Ks.all (R : T → Nat → Prop) : Ks → Nat → Prop
 | .nil, _ => True
 | .cons _ t ks, b => R t b ∧ ks.all R (b + t.sz)
theorem Ks.all_mono {R S : T → Nat → Prop} : ∀ {ks : Ks} {b : Nat}, (∀ t i, b ≤ i → R t i → S t i) → ks.all R b → ks.all S b
 | .nil, b, _, _ => trivial
 | .cons c t ks, b, h, ⟨h1, h2⟩ => ⟨h _ _ (Nat.le_refl _) h1, Ks.all_mono (fun t i hi hr => h t i (by omega) hr) h2⟩
theorem Ks.all_lies {a : List Node} : ∀ (ks : Ks) (b : Nat) (pre post : List Node), a = pre ++ (ks.flat b ++ post) → pre.length = b → ks.all (fun t i => Lies a i t) b
 | .nil, b, _, _, _, _ => trivial
 | .cons c t ks, b, pre, post, h, hb => by
  rw [Ks.flat] at h
  refine ⟨⟨pre, ks.flat (b + t.sz) ++ post, by rw [h]; simp, hb⟩, Ks.all_lies ks (b + t.sz) (pre ++ t.flat b) post (by rw [h]; simp) (by simp [hb, T.flat_len])⟩
theorem Ks.all_liesT {L : List T} : ∀ (ks : Ks) (b : Nat) (pre post : List T), L = pre ++ (ks.trs ++ post) → pre.length = b → ks.all (fun t i => LiesT L i t) b
 | .nil, b, _, _, _, _ => trivial
 | .cons c t ks, b, pre, post, h, hb => by
  rw [Ks.trs] at h
  refine ⟨⟨pre, ks.trs ++ post, by rw [h]; simp, hb⟩, Ks.all_liesT ks (b + t.sz) (pre ++ t.trs) post (by rw [h]; simp) (by simp [hb, T.trs_len])⟩
theorem Lies.kids {a : List Node} {b : Nat} {l : Lab} {ks : Ks} (h : Lies a b (.node l ks)) : ks.all (fun t i => Lies a i t) (b + 1) := by
 obtain ⟨pre, post, rfl, rfl⟩ := h
 rw [T.flat]
 exact Ks.all_lies ks _ (pre ++ [l.node (ks.vec (pre.length + 1) v0)]) post (by simp) (by simp)
theorem LiesT.kids {L : List T} {b : Nat} {l : Lab} {ks : Ks} (h : LiesT L b (.node l ks)) : ks.all (fun t i => LiesT L i t) (b + 1) := by
 obtain ⟨pre, post, rfl, rfl⟩ := h
 rw [T.trs]
 exact Ks.all_liesT ks _ (pre ++ [.node l ks]) post (by simp) (by simp)
/-- What stands at a place. -/
def Pos (a : List Node) (L : List T) (i : Nat) (u : T) : Prop := Lies a i u ∧ LiesT L i u ∧ u.fit
mutual
theorem T.pos {a : List Node} {L : List T} : ∀ (t : T) (b i : Nat), Pos a L b t → i < t.sz → ∃ u, t.trs[i]? = some u ∧ Pos a L (b + i) u
 | .node l ks, b, 0, h, _ => ⟨_, rfl, h⟩
 | .node l ks, b, i + 1, h, hi => by
  obtain ⟨u, h1, h2⟩ := Ks.pos ks (b + 1) i h.1.kids h.2.1.kids h.2.2.2.2.2.2 (by simp only [T.sz] at hi; omega)
  exact ⟨u, by simpa [T.trs] using h1, by rwa [show b + (i + 1) = b + 1 + i by omega]⟩
theorem Ks.pos {a : List Node} {L : List T} : ∀ (ks : Ks) (b i : Nat), ks.all (fun t i => Lies a i t) b → ks.all (fun t i => LiesT L i t) b → ks.fit → i < ks.sz → ∃ u, ks.trs[i]? = some u ∧ Pos a L (b + i) u
 | .nil, b, i, _, _, _, h => by simp [Ks.sz] at h
 | .cons c t ks, b, i, h1, h2, h3, h => by
  have hl := T.trs_len t
  rw [Ks.sz] at h
  rcases Nat.lt_or_ge i t.sz with hi | hi
  ·obtain ⟨u, g1, g2⟩ := T.pos t b i ⟨h1.1, h2.1, h3.1⟩ hi
   exact ⟨u, by rw [Ks.trs, List.getElem?_append_left (by omega)]; exact g1, g2⟩
  ·obtain ⟨u, g1, g2⟩ := Ks.pos ks (b + t.sz) (i - t.sz) h1.2 h2.2 h3.2 (by omega)
   exact ⟨u, by rw [Ks.trs, List.getElem?_append_right (by omega), hl]; exact g1, by rwa [show b + i = b + t.sz + (i - t.sz) by omega]⟩
end
theorem tre_pos {l : List Pair} (hm : MayP l) (hl : l.length < 1000000) (h0 : 0 < l.length) {i : Nat} (hi : i < (tri l).length) : ∃ u, (tre l).trs[i]? = some u ∧ Pos (tri l) (tre l).trs i u := by
 have he : l ≠ [] := List.length_pos_iff.mp h0
 rw [tri_len h0] at hi
 have h := T.pos (a := tri l) (L := (tre l).trs) (tre l) 0 i ⟨⟨[], [], by rw [tri, if_neg he]; simp, rfl⟩, ⟨[], [], by simp, rfl⟩, tre_fit hm hl h0⟩ hi
 simpa using h
end Go.Lf
/- A node as an Item; its text; its hash. -/
set_option linter.unusedVariables false
set_option linter.unusedSimpArgs false
namespace Go.Lf
open Go
def pkd (s : ByteArray) : ByteArray := strOfNums [wu8 (s.size : Int)] ++ pck s
def jn (hs : List ByteArray) : ByteArray := ⟨(Lib.join (hs.map (·.data.toList)) (⟨#[]⟩ : ByteArray).data.toList).toArray⟩
def vl (v : ByteArray) : ByteArray := strOfNums [wu8 (v.size : Int)] ++ v
/-- An Item's text. -/
def enc (i : Item) : ByteArray :=
 if i.kind_ = 1 then (strOfNums [wu8 i.kind_] ++ pkd i.path_) ++ vl i.value_
 else if i.kind_ = 2 then (strOfNums [wu8 i.kind_] ++ pkd i.path_) ++ jn i.hashes_
 else if i.has_ = true then (((strOfNums [wu8 i.kind_] ++ strOfNums [wu8 (shr .i64 i.mask_ 8), wu8 i.mask_]) ++ (⟨#[1]⟩ : ByteArray)) ++ vl i.value_) ++ jn i.hashes_
 else ((strOfNums [wu8 i.kind_] ++ strOfNums [wu8 (shr .i64 i.mask_ 8), wu8 i.mask_]) ++ (⟨#[0]⟩ : ByteArray)) ++ jn i.hashes_
theorem pgood_ok {s : ByteArray} (h1 : s.size ≤ 16) (h2 : Sml s) : nibble_Good.f s = some true := by
 unfold nibble_Good.f
 rw [bif_true (decide_eq_true (by omega))]
 rcases small_ok (s := s) (by omega) with ⟨-, h⟩ | ⟨h, -⟩
 ·rw [h]; rfl
 ·exact absurd h2 h
theorem pack_ok {s : ByteArray} (h1 : s.size ≤ 16) (h2 : Sml s) : nibble_Pack.f s = some (pkd s, true) ∧ (pkd s).size = 1 + (s.size + 1) / 2 := by
 have hsz : (pck s).size = (s.size + 1) / 2 := by rw [← B_len, B_pck h2, pk_len, B_len]
 constructor
 ·unfold nibble_Pack.f
  rw [pgood_ok h1 h2, Option.bind_some, bif_false (c := !true) rfl, two_ok (by omega) h2, Option.bind_some, gd_pos (by rw [strOfNums_size, hsz]; simp; omega)]
  rfl
 ·unfold pkd
  rw [app_size, strOfNums_size, hsz]
  simp
theorem jn_list (hs : List ByteArray) : (jn hs).data.toList = (hs.map (·.data.toList)).flatten := by
 unfold jn
 have : ∀ x : List (List UInt8), Lib.join x ([] : List UInt8) = x.flatten := by
  intro x
  unfold Lib.join
  cases x with
  | nil => rfl
  | cons a x =>
   induction x generalizing a with
   | nil => simp [List.intercalate]
   | cons b x ih =>
    have := ih b
    simp [List.intercalate, List.intersperse] at this ⊢
    exact this
 simp [this]
theorem dl (s : ByteArray) : s.data.toList.length = s.size := by rw [Array.length_toList]; rfl
theorem jn_size {hs : List ByteArray} (h : ∀ x ∈ hs, x.size = 32) : (jn hs).size = 32 * hs.length := by
 rw [← dl, jn_list]
 induction hs with
 | nil => rfl
 | cons a hs ih =>
  have h2 : a.data.toList.length = 32 := by rw [dl]; exact h a (List.mem_cons_self ..)
  have h3 := ih fun x hx => h x (List.mem_cons_of_mem _ hx)
  simp only [List.map_cons, List.flatten_cons, List.length_append, List.length_cons]
  rw [h2, h3]
  omega
theorem join_ok {hs : List ByteArray} (h : ∀ x ∈ hs, x.size = 32) (hl : hs.length ≤ 16) : strings_Join.f hs (⟨#[]⟩ : ByteArray) = some (jn hs) := by
 unfold strings_Join.f
 have h1 := jn_size h
 have h2 : (Lib.join (hs.map (·.data.toList)) (⟨#[]⟩ : ByteArray).data.toList).length = (jn hs).size := by rw [← dl]; simp [jn]
 rw [gd_pos (by rw [h2, h1]; omega)]
 rfl
/-- An Item that may be. -/
structure Fit (i : Item) : Prop where
 msk : ∃ m : Nat, i.mask_ = (m : Int) ∧ m < 65536 ∧ popc 16 m = i.hashes_.length
 hsh : ∀ x ∈ i.hashes_, x.size = 32
 val : i.value_.size ≤ 16
 noval : i.has_ = false → i.value_ = ⟨#[]⟩
 path : i.path_.size ≤ 16
 sml : Sml i.path_
 kind : (i.kind_ = 1 ∧ i.has_ = true ∧ i.mask_ = 0) ∨ (i.kind_ = 2 ∧ i.has_ = false ∧ 0 < i.path_.size ∧ i.mask_ = 1) ∨ (i.kind_ = 3 ∧ i.path_ = ⟨#[]⟩ ∧ (2 ≤ i.hashes_.length ∨ i.has_ = true ∧ 1 ≤ i.hashes_.length))
theorem Fit.few {i : Item} (h : Fit i) : i.hashes_.length ≤ 16 := by
 obtain ⟨m, -, -, h⟩ := h.msk
 have := popc_le 16 m
 omega
theorem hidx_l0 {hs : List ByteArray} (h : ∀ x ∈ hs, x.size = 32) (hl : hs.length ≤ 16) : ∀ (fuel i : Nat), hs.length - i < fuel → slices_IndexFunc_string_node_hashes_c1.l0 hs fuel (i : Int) = some (.inl ())
 | 0, i, hf => by omega
 | fuel + 1, i, hf => by
  rw [slices_IndexFunc_string_node_hashes_c1.l0]
  rcases Nat.lt_or_ge i hs.length with hi | hi
  ·have hm : (gt hs (i : Int)).size = 32 := by
    apply h
    rw [gt_nat, List.getD_eq_getElem?_getD, List.getElem?_eq_getElem hi]
    exact List.getElem_mem hi
   rw [bif_true (decide_eq_true (by omega)), gd_pos (by omega)]
   unfold node_hashes_c1.f
   rw [hm, Option.bind_some, bif_false (by decide), w64_nat (x := (i : Int) + 1) (k := i + 1) (by simp) (by omega)]
   exact hidx_l0 h hl fuel (i + 1) (by omega)
  ·rw [bif_false (decide_eq_false (by omega))]
theorem hashes_ok {i : Item} (h : Fit i) : node_hashes.f i = some true := by
 unfold node_hashes.f
 obtain ⟨m, h1, h2, h3⟩ := h.msk
 have hw : wu64 i.mask_ = (m : Int) := by
  rw [h1]
  have := wrap64_nat m
  rw [Nat.mod_eq_of_lt (by omega)] at this
  exact this
 rw [hw, ones_ok h2, Option.bind_some, h3, bif_true (by simp)]
 unfold slices_ContainsFunc_string_node_hashes_c1.f slices_IndexFunc_string_node_hashes_c1.f
 have h0 := hidx_l0 h.hsh h.few BIG 0 (by have := h.few; have := BIG_ge; omega)
 rw [show ((0 : Nat) : Int) = 0 from rfl] at h0
 rw [h0]
 rfl
theorem seq_self (s : ByteArray) : seq_ s s = true := by rw [seq_B]; simp
theorem good_item {i : Item} (h : Fit i) : node_Good.f i = some true := by
 unfold node_Good.f
 obtain ⟨m, h1, h2, h3⟩ := h.msk
 have hv := h.val
 rw [bif_false (c := decide (i.mask_ < 0)) (decide_eq_false (by omega)), bif_false (c := decide (i.mask_ ≥ 65536)) (decide_eq_false (by omega)), hashes_ok h, Option.bind_some, bif_false (c := !true) rfl, bif_false (c := decide ((i.value_.size : Int) > 16)) (decide_eq_false (by omega)), pgood_ok h.path h.sml]
 have e : (bif !i.has_ then bif !(seq_ i.value_ (⟨#[]⟩ : ByteArray)) then some true else (some true).bind fun y152 => some (!y152) else (some true).bind fun y158 => some (!y158)) = some false := by
  cases hh : i.has_
  ·rw [h.noval hh, seq_self]
   rfl
  ·rfl
 rw [e, Option.bind_some, bif_false rfl]
 rcases h.kind with ⟨k1, k2, k3⟩ | ⟨k1, k2, k3, k4⟩ | ⟨k1, k2, k3⟩
 ·rw [k1, k2, k3, bif_true (c := (1 : Int) == 1) rfl]
  simp [eq_node_face_T]
 ·have hv0 := h.noval k2
  have hp : seq_ i.path_ (⟨#[]⟩ : ByteArray) = false := by
   rw [seq_B]
   apply decide_eq_false
   intro e
   rw [e] at k3
   exact absurd k3 (by decide)
  rw [k1, k2, k4, hv0, hp, bif_false (c := (2 : Int) == 1) rfl, bif_true (c := (2 : Int) == 2) rfl]
  simp [eq_node_face_T]
 ·rw [k1, k2, seq_self, bif_false (c := (3 : Int) == 1) rfl, bif_false (c := (3 : Int) == 2) rfl, bif_true (c := (3 : Int) == 3) rfl, bif_true rfl]
  by_cases hl : 1 < i.hashes_.length
  ·rw [bif_true (decide_eq_true (by omega))]
   rfl
  ·rcases k3 with k3 | ⟨k3, k4⟩
   ·omega
   ·rw [bif_false (decide_eq_false (by omega)), k3, bif_true rfl, decide_eq_true (show (i.hashes_.length : Int) > 0 by omega)]
    rfl
theorem vl_size (v : ByteArray) : (vl v).size = 1 + v.size := by unfold vl; rw [app_size, strOfNums_size]; rfl
theorem enc_size {i : Item} (h : Fit i) : (enc i).size ≤ 2000 := by
 have hf := h.few
 have hj := jn_size h.hsh
 have hp := (pack_ok h.path h.sml).2
 have hv := h.val
 have hpp := h.path
 unfold enc
 split
 ·simp only [app_size, strOfNums_size, vl_size, hp, List.length_cons, List.length_nil]; omega
 ·split
  ·simp only [app_size, strOfNums_size, vl_size, hp, hj, List.length_cons, List.length_nil]; omega
  ·split
   ·have : (⟨#[1]⟩ : ByteArray).size = 1 := rfl
    simp only [app_size, strOfNums_size, vl_size, hj, this, List.length_cons, List.length_nil]; omega
   ·have : (⟨#[0]⟩ : ByteArray).size = 1 := rfl
    simp only [app_size, strOfNums_size, hj, this, List.length_cons, List.length_nil]; omega
theorem encode_ok {i : Item} (h : Fit i) : node_Encode.f i = some (enc i, true) := by
 unfold node_Encode.f
 have hf := h.few
 have hj := jn_size h.hsh
 obtain ⟨hp1, hp2⟩ := pack_ok h.path h.sml
 have hv := h.val
 have hpp := h.path
 have hval : node_value.f i.value_ = some (vl i.value_) := by
  unfold node_value.f
  rw [gd_pos (by rw [strOfNums_size]; simp; omega)]
  rfl
 have s1 : (⟨#[1]⟩ : ByteArray).size = 1 := rfl
 have s0 : (⟨#[0]⟩ : ByteArray).size = 1 := rfl
 rw [good_item h, Option.bind_some, bif_false (c := !true) rfl, hp1]
 simp only [Option.bind_some]
 rw [join_ok h.hsh hf, Option.bind_some]
 unfold enc
 rcases h.kind with ⟨k1, -⟩ | ⟨k1, -⟩ | ⟨k1, -⟩
 ·rw [k1, bif_true (c := (1 : Int) == 1) rfl, if_pos rfl, gd_pos (by rw [strOfNums_size, hp2]; simp; omega), hval, Option.bind_some, gd_pos (by simp only [app_size, strOfNums_size, vl_size, hp2, List.length_cons, List.length_nil]; omega)]
 ·rw [k1, bif_false (c := (2 : Int) == 1) rfl, bif_true (c := (2 : Int) == 2) rfl, if_neg (by decide), if_pos rfl, gd_pos (by rw [strOfNums_size, hp2]; simp; omega), gd_pos (by simp only [app_size, strOfNums_size, hj, hp2, List.length_cons, List.length_nil]; omega)]
 ·rw [k1, bif_false (c := (3 : Int) == 1) rfl, bif_false (c := (3 : Int) == 2) rfl, if_neg (by decide), if_neg (by decide), gd_pos (by rw [strOfNums_size, strOfNums_size]; simp)]
  cases hh : i.has_
  ·rw [if_neg (by simp), bif_true (c := !false) rfl, gd_pos (by simp only [app_size, strOfNums_size, s0, List.length_cons, List.length_nil]; omega), gd_pos (by simp only [app_size, strOfNums_size, s0, hj, List.length_cons, List.length_nil]; omega)]
  ·rw [if_pos rfl, bif_false (c := !true) rfl, gd_pos (by simp only [app_size, strOfNums_size, s1, List.length_cons, List.length_nil]; omega), hval, Option.bind_some, gd_pos (by simp only [app_size, strOfNums_size, s1, vl_size, List.length_cons, List.length_nil]; omega), gd_pos (by simp only [app_size, strOfNums_size, s1, hj, vl_size, List.length_cons, List.length_nil]; omega)]
theorem hash_ok {i : Item} (h : Fit i) : node_Hash.f i = some (dg (enc i), true) ∧ (dg (enc i)).size = 32 := by
 have hs := enc_size h
 obtain ⟨h1, h2⟩ := dg_ok (s := enc i) (by omega)
 refine ⟨?_, h2⟩
 unfold node_Hash.f
 rw [encode_ok h]
 simp only [Option.bind_some]
 rw [bif_false (c := !true) rfl, h1]
 rfl
def Ks.mask : Ks → Nat
 | .nil => 0
 | .cons c _ ks => 2 ^ c + ks.mask
mutual
/-- A tree's hash. -/
noncomputable def T.hsh : T → ByteArray
 | .node l ks => dg (enc ⟨l.kind, l.path, l.has, l.value, (ks.mask : Int), ks.hshs⟩)
noncomputable def Ks.hshs : Ks → List ByteArray
 | .nil => []
 | .cons _ t ks => t.hsh :: ks.hshs
end
/-- The top node as an Item. -/
noncomputable def T.item : T → Item
 | .node l ks => ⟨l.kind, l.path, l.has, l.value, (ks.mask : Int), ks.hshs⟩
theorem T.hsh_item (t : T) : t.hsh = dg (enc t.item) := by
 obtain ⟨l, ks⟩ := t
 rw [T.hsh]
 rfl
theorem hshs_len : ∀ ks : Ks, ks.hshs.length = ks.cnt
 | .nil => by rw [Ks.hshs]; rfl
 | .cons c t ks => by rw [Ks.hshs, Ks.cnt, List.length_cons, hshs_len ks]
theorem popc_two : ∀ (c k r : Nat), c ≤ k → popc k (2 ^ c * r) = popc (k - c) r
 | 0, k, r, _ => by simp
 | c + 1, 0, r, h => by omega
 | c + 1, k + 1, r, h => by
  rw [popc, Nat.pow_succ, show 2 ^ c * 2 * r = 2 * (2 ^ c * r) by rw [Nat.mul_comm (2 ^ c) 2, Nat.mul_assoc], Nat.mul_mod_right, Nat.mul_div_cancel_left _ (by omega), popc_two c k r (by omega), Nat.zero_add]
  congr 1
  omega
theorem mask_div : ∀ {ks : Ks} {m : Nat}, ks.up m → m ≤ 16 → ∃ r, ks.mask = 2 ^ m * r ∧ r < 2 ^ (16 - m) ∧ popc (16 - m) r = ks.cnt
 | .nil, m, _, hm => ⟨0, rfl, Nat.two_pow_pos _, by
  have : ∀ k, popc k 0 = 0 := by
   intro k
   induction k with
   | zero => rfl
   | succ k ih => rw [popc, Nat.zero_div, ih]
  rw [this]
  rfl⟩
 | .cons c t ks, m, h, hm => by
  obtain ⟨h1, h2, h3⟩ := h
  obtain ⟨r, e1, e2, e3⟩ := mask_div h3 (by omega)
  have hc : 2 ^ c = 2 ^ m * 2 ^ (c - m) := by rw [← Nat.pow_add]; congr 1; omega
  have hc1 : 2 ^ (c + 1) = 2 ^ m * (2 ^ (c - m) * 2) := by rw [← Nat.mul_assoc, ← hc, Nat.pow_succ]
  refine ⟨2 ^ (c - m) * (1 + 2 * r), ?_, ?_, ?_⟩
  ·rw [Ks.mask, e1, hc1, hc, Nat.mul_assoc, Nat.mul_assoc, ← Nat.mul_add]
   congr 1
   rw [Nat.mul_add, Nat.mul_one]
  ·have : 2 ^ (16 - m) = 2 ^ (c - m) * (2 * 2 ^ (16 - (c + 1))) := by
    rw [← Nat.pow_succ', ← Nat.pow_add]
    congr 1
    omega
   rw [this]
   exact Nat.mul_lt_mul_of_pos_left (by omega) (Nat.two_pow_pos _)
  ·rw [popc_two _ _ _ (by omega), Ks.cnt, show 16 - m - (c - m) = (16 - (c + 1)) + 1 by omega, popc]
   rw [show (1 + 2 * r) % 2 = 1 by omega, show (1 + 2 * r) / 2 = r by omega, e3]
   omega
mutual
theorem T.item_fit : ∀ {t : T}, t.fit → Fit t.item
 | .node l ks, h => by
  obtain ⟨⟨p1, p2, p3⟩, h2, h3, h4, h5⟩ := h
  obtain ⟨r, e1, e2, e3⟩ := mask_div h2 (by omega)
  rw [Nat.pow_zero, Nat.one_mul] at e1
  refine ⟨⟨ks.mask, rfl, by rw [e1]; exact e2, ?_⟩, Ks.hshs_size h5, p3, h3, p1, p2, ?_⟩
  ·show popc 16 ks.mask = ks.hshs.length
   rw [hshs_len, e1]
   exact e3
  ·rcases h4 with ⟨k1, k2, rfl⟩ | ⟨k1, k2, k3, t, rfl⟩ | ⟨k1, k2, k3⟩
   ·exact .inl ⟨k1, k2, rfl⟩
   ·exact .inr (.inl ⟨k1, k2, k3, rfl⟩)
   ·refine .inr (.inr ⟨k1, k2, ?_⟩)
    show 2 ≤ ks.hshs.length ∨ l.has = true ∧ 1 ≤ ks.hshs.length
    rw [hshs_len]
    exact k3
theorem T.hsh_size : ∀ {t : T}, t.fit → t.hsh.size = 32
 | .node l ks, h => by
  obtain ⟨⟨p1, p2, p3⟩, h2, h3, h4, h5⟩ := h
  obtain ⟨r, e1, e2, e3⟩ := mask_div h2 (by omega)
  rw [Nat.pow_zero, Nat.one_mul] at e1
  rw [T.hsh]
  refine (hash_ok (i := ⟨l.kind, l.path, l.has, l.value, (ks.mask : Int), ks.hshs⟩) ⟨⟨ks.mask, rfl, by rw [e1]; exact e2, ?_⟩, Ks.hshs_size h5, p3, h3, p1, p2, ?_⟩).2
  ·show popc 16 ks.mask = ks.hshs.length
   rw [hshs_len, e1]
   exact e3
  ·rcases h4 with ⟨k1, k2, rfl⟩ | ⟨k1, k2, k3, t, rfl⟩ | ⟨k1, k2, k3⟩
   ·exact .inl ⟨k1, k2, rfl⟩
   ·exact .inr (.inl ⟨k1, k2, k3, rfl⟩)
   ·refine .inr (.inr ⟨k1, k2, ?_⟩)
    show 2 ≤ ks.hshs.length ∨ l.has = true ∧ 1 ≤ ks.hshs.length
    rw [hshs_len]
    exact k3
theorem Ks.hshs_size : ∀ {ks : Ks}, ks.fit → ∀ x ∈ ks.hshs, x.size = 32
 | .nil, _, x, hx => by rw [Ks.hshs] at hx; cases hx
 | .cons c t ks, ⟨h1, h2⟩, x, hx => by
  rw [Ks.hshs] at hx
  rcases List.mem_cons.mp hx with rfl | hx
  ·exact T.hsh_size h1
  ·exact Ks.hshs_size h2 x hx
end
end Go.Lf
/- All hashes of a trie. -/
set_option linter.unusedVariables false
set_option linter.unusedSimpArgs false
namespace Go.Lf
open Go
theorem shl_one {m : Nat} (h : m < 16) : shl .i64 1 (m : Int) = ((2 ^ m : Nat) : Int) := by
 unfold shl
 have h1 : (IntKind.bits .i64) = 64 := rfl
 have hp : 2 ^ m < 2 ^ 16 := Nat.pow_lt_pow_right (by decide) h
 rw [h1, Int.toNat_natCast, Nat.min_eq_left (by omega), Int.one_mul]
 have : (2 : Int) ^ m = ((2 ^ m : Nat) : Int) := by simp
 rw [this]
 exact wrapi64_nat (by omega)
theorem bor_mask {M m : Nat} (h : m < 16) (hM : M < 2 ^ m) : bor .i64 (M : Int) (shl .i64 1 (m : Int)) = ((M + 2 ^ m : Nat) : Int) := by
 have hp : 2 ^ m < 2 ^ 16 := Nat.pow_lt_pow_right (by decide) h
 rw [shl_one h]
 unfold bor
 have h1 : (IntKind.bits .i64) = 64 := rfl
 rw [h1, ofInt_nat, ofInt_nat, BitVec.toNat_or, BitVec.toNat_ofNat, BitVec.toNat_ofNat, Nat.mod_eq_of_lt (by omega), Nat.mod_eq_of_lt (by omega)]
 have e : M ||| 2 ^ m = M + 2 ^ m := by
  have := Nat.two_pow_add_eq_or_of_lt hM 1
  rw [Nat.mul_one] at this
  rw [Nat.or_comm, ← this, Nat.add_comm]
 rw [e]
 exact wrapi64_nat (by omega)
/-- H tells the hashes of these children, the first of which stands at b. -/
abbrev Tell (H : List ByteArray) : T → Nat → Prop := fun t b => b < H.length ∧ H.getD b default = t.hsh
theorem itemR_l0 {nd : Node} {H : List ByteArray} : ∀ (fuel m : Nat) (ks : Ks) (bk : Nat) (acc : List ByteArray) (M : Nat), 16 - m < fuel → m ≤ 16 → ks.at bk nd.kids_ m → 0 < bk → ks.all (Tell H) bk → acc.length ≤ m → M < 2 ^ m →
  root_item_r1.l0 nd H fuel (acc, (M : Int), (m : Int)) = some (acc ++ ks.hshs, ((M + ks.mask : Nat) : Int))
 | 0, m, ks, bk, acc, M, h, _, _, _, _, _, _ => by omega
 | fuel + 1, m, ks, bk, acc, M, h, hm, hat, hb, hT, hacc, hM => by
  rw [root_item_r1.l0]
  rcases Nat.lt_or_ge m 16 with h16 | h16
  ·rw [bif_true (decide_eq_true (by omega)), gd_pos (by omega), w64_nat (x := (m : Int) + 1) (k := m + 1) (by simp) (by omega)]
   have hM2 : 2 ^ (m + 1) = 2 ^ m + 2 ^ m := by rw [Nat.pow_succ]; omega
   rcases Ks.at_step hat h16 with ⟨h0, hat'⟩ | ⟨t, r, rfl, h0, hat'⟩
   ·rw [h0, bif_false (c := (0 : Int) != 0) rfl]
    simp only [Option.bind_some]
    exact itemR_l0 fuel (m + 1) ks bk acc M (by omega) (by omega) hat' hb hT (by omega) (by omega)
   ·obtain ⟨⟨t1, t2⟩, t3⟩ := hT
    have hpos := T.sz_pos t
    have e : gt H (bk : Int) = t.hsh := t2
    rw [h0, bif_true (c := (bk : Int) != 0) (by simp; omega), gd_pos (by omega), gd_pos (by omega), gd_pos (by omega), e, bor_mask h16 hM]
    simp only [Option.bind_some]
    rw [itemR_l0 fuel (m + 1) r (bk + t.sz) _ _ (by omega) (by omega) hat' (by omega) t3 (by simp; omega) (by omega), Ks.hshs, Ks.mask]
    simp [Nat.add_assoc]
  ·rw [bif_false (decide_eq_false (by omega))]
   have : ks = .nil := by
    cases ks with
    | nil => rfl
    | cons c t r =>
     obtain ⟨h1, h2, -⟩ := hat
     omega
   subst this
   simp [Ks.hshs, Ks.mask]
theorem item_l0 {nd : Node} {H : List ByteArray} : ∀ (fuel m : Nat) (ks : Ks) (bk : Nat) (acc : List ByteArray) (M : Nat), 16 - m < fuel → m ≤ 16 → ks.at bk nd.kids_ m → 0 < bk → ks.all (Tell H) bk → acc.length ≤ m → M < 2 ^ m →
  root_item.l0 nd H fuel (acc, (M : Int), (m : Int)) = some (acc ++ ks.hshs, ((M + ks.mask : Nat) : Int))
 | 0, m, ks, bk, acc, M, h, _, _, _, _, _, _ => by omega
 | fuel + 1, m, ks, bk, acc, M, h, hm, hat, hb, hT, hacc, hM => by
  rw [root_item.l0]
  rcases Nat.lt_or_ge m 16 with h16 | h16
  ·rw [bif_true (decide_eq_true (by omega)), gd_pos (by omega), w64_nat (x := (m : Int) + 1) (k := m + 1) (by simp) (by omega)]
   have hM2 : 2 ^ (m + 1) = 2 ^ m + 2 ^ m := by rw [Nat.pow_succ]; omega
   rcases Ks.at_step hat h16 with ⟨h0, hat'⟩ | ⟨t, r, rfl, h0, hat'⟩
   ·rw [h0, bif_false (c := (0 : Int) != 0) rfl]
    simp only [Option.bind_some]
    exact item_l0 fuel (m + 1) ks bk acc M (by omega) (by omega) hat' hb hT (by omega) (by omega)
   ·obtain ⟨⟨t1, t2⟩, t3⟩ := hT
    have hpos := T.sz_pos t
    have e : gt H (bk : Int) = t.hsh := t2
    rw [h0, bif_true (c := (bk : Int) != 0) (by simp; omega), gd_pos (by omega), gd_pos (by omega), gd_pos (by omega), e, bor_mask h16 hM]
    simp only [Option.bind_some]
    rw [item_l0 fuel (m + 1) r (bk + t.sz) _ _ (by omega) (by omega) hat' (by omega) t3 (by simp; omega) (by omega), Ks.hshs, Ks.mask]
    simp [Nat.add_assoc]
  ·rw [bif_false (decide_eq_false (by omega))]
   have : ks = .nil := by
    cases ks with
    | nil => rfl
    | cons c t r =>
     obtain ⟨h1, h2, -⟩ := hat
     omega
   subst this
   simp [Ks.hshs, Ks.mask]
/-- The hashes from place i on are told. -/
def Told (L : List T) (i : Nat) (H : List ByteArray) : Prop := H.length = L.length ∧ ∀ j u, i ≤ j → L[j]? = some u → H.getD j default = u.hsh
theorem told_kids {L : List T} {H : List ByteArray} {i : Nat} (hT : Told L i H) {ks : Ks} {b : Nat} (hb : i ≤ b) (h : ks.all (fun t i => LiesT L i t) b) : ks.all (Tell H) b :=
 Ks.all_mono (fun t j hj hl => by
  have hg := hl.get
  refine ⟨?_, hT.2 j t (by omega) hg⟩
  rw [hT.1]
  exact (List.getElem?_eq_some_iff.mp hg).1) h
theorem itemR_ok {a : List Node} {L : List T} {H : List ByteArray} {i : Nat} {u : T} (hP : Pos a L i u) (hT : Told L (i + 1) H) : root_item_r1.f (gt a (i : Int)) H = some u.item := by
 obtain ⟨l, ks⟩ := u
 obtain ⟨h1, h2, h3⟩ := hP
 unfold root_item_r1.f
 have hat : ks.at (i + 1) (gt a (i : Int)).kids_ 0 := by rw [h1.get]; exact Ks.at_vec0 h3.2.1
 have h := itemR_l0 (H := H) BIG 0 ks (i + 1) [] 0 (by have := BIG_ge; omega) (by omega) hat (by omega) (told_kids hT (by omega) h2.kids) (by simp) (by simp)
 rw [show ((0 : Nat) : Int) = 0 from rfl] at h
 rw [h, h1.get]
 simp only [Option.bind_some, List.nil_append, Nat.zero_add]
 rfl
theorem item_ok {a : List Node} {L : List T} {H : List ByteArray} {i : Nat} {u : T} (hP : Pos a L i u) (hT : Told L (i + 1) H) : root_item.f (gt a (i : Int)) H = some u.item := by
 obtain ⟨l, ks⟩ := u
 obtain ⟨h1, h2, h3⟩ := hP
 unfold root_item.f
 have hat : ks.at (i + 1) (gt a (i : Int)).kids_ 0 := by rw [h1.get]; exact Ks.at_vec0 h3.2.1
 have h := item_l0 (H := H) BIG 0 ks (i + 1) [] 0 (by have := BIG_ge; omega) (by omega) hat (by omega) (told_kids hT (by omega) h2.kids) (by simp) (by simp)
 rw [show ((0 : Nat) : Int) = 0 from rfl] at h
 rw [h, h1.get]
 simp only [Option.bind_some, List.nil_append, Nat.zero_add]
 rfl
theorem hashes_l0 {a : List Node} {L : List T} (hL : L.length = a.length) (ha : a.length < 1000000000) (hP : ∀ i, i < a.length → ∃ u, L[i]? = some u ∧ Pos a L i u) : ∀ (fuel i : Nat) (H : List ByteArray), i < fuel → i ≤ a.length → Told L i H → ∃ H', root_hashes.l0 a fuel (H, (i : Int) - 1) = some H' ∧ Told L 0 H'
 | 0, i, H, h, _, _ => by omega
 | fuel + 1, i, H, h, hi, hT => by
  rw [root_hashes.l0]
  rcases Nat.eq_zero_or_pos i with rfl | h0
  ·rw [bif_false (decide_eq_false (by omega))]
   exact ⟨H, rfl, hT⟩
  ·obtain ⟨j, rfl⟩ : ∃ j, i = j + 1 := ⟨i - 1, by omega⟩
   obtain ⟨u, u1, u2⟩ := hP j (by omega)
   have e : (((j + 1 : Nat) : Int) - 1) = (j : Int) := by omega
   have hlen := hT.1
   rw [e, bif_true (decide_eq_true (by omega)), gd_pos (by omega), itemR_ok u2 hT, Option.bind_some, (hash_ok (T.item_fit u2.2.2)).1]
   simp only [Option.bind_some]
   have e2 : w64 ((j : Int) - 1) = (j : Int) - 1 := w64_id (by omega)
   rw [gd_pos (by omega), e2, Int.toNat_natCast]
   refine hashes_l0 hL ha hP fuel j _ (by omega) (by omega) ⟨by rw [List.length_set]; exact hlen, fun k v hk hv => ?_⟩
   rw [List.getD_eq_getElem?_getD, List.getElem?_set]
   split
   ·rename_i hjk
    subst hjk
    rw [if_pos (by omega), Option.getD_some]
    rw [u1] at hv
    cases hv
    exact (T.hsh_item u).symm
   ·rename_i hjk
    rw [← List.getD_eq_getElem?_getD]
    exact hT.2 k v (by omega) hv
/-- All hashes of the trie of pairs. -/
noncomputable def hss (l : List Pair) : List ByteArray := if l = [] then [] else (tre l).trs.map T.hsh
theorem told_map {L : List T} {H : List ByteArray} (h : Told L 0 H) : H = L.map T.hsh := by
 apply List.ext_getElem?
 intro i
 rw [List.getElem?_map]
 rcases Nat.lt_or_ge i L.length with hi | hi
 ·have h2 := h.2 i L[i] (Nat.zero_le _) (List.getElem?_eq_getElem hi)
  rw [List.getElem?_eq_getElem hi, List.getElem?_eq_getElem (by rw [h.1]; exact hi)]
  rw [List.getD_eq_getElem?_getD, List.getElem?_eq_getElem (by rw [h.1]; exact hi), Option.getD_some] at h2
  rw [h2]
  rfl
 ·rw [List.getElem?_eq_none (by rw [h.1]; exact hi), List.getElem?_eq_none hi]
  rfl
theorem told_of (L : List T) : Told L 0 (L.map T.hsh) := ⟨by simp, fun j u _ h => by
 rw [List.getD_eq_getElem?_getD, List.getElem?_map, h]
 rfl⟩
theorem rhashes_ok {l : List Pair} (hm : MayP l) (hl : l.length < 10000) : root_hashes.f (tri l) = some (hss l) := by
 unfold root_hashes.f
 by_cases he : l = []
 ·subst he
  obtain ⟨B, hB⟩ : ∃ B, BIG = B + 1 := ⟨BIG - 1, by have := BIG_ge; omega⟩
  have e1 : tri ([] : List Pair) = [] := rfl
  have e2 : hss ([] : List Pair) = [] := by unfold hss; rw [if_pos rfl]
  rw [e1, e2, gd_pos (by simp), hB, root_hashes.l0, bif_false (by decide)]
  rfl
 ·have h0 : 0 < l.length := List.length_pos_iff.mpr he
  have hsz := tre_sz (l := l) (by omega) h0
  have htl := tri_len (l := l) h0
  have hL : (tre l).trs.length = (tri l).length := by rw [T.trs_len, htl]
  have e : w64 (((tri l).length : Int) - 1) = ((tri l).length : Int) - 1 := w64_id (by omega)
  obtain ⟨H, h1, h2⟩ := hashes_l0 hL (by omega) (fun i hi => tre_pos hm (by omega) h0 hi) BIG (tri l).length (List.replicate (tri l).length ⟨#[]⟩) (by have := BIG_ge; omega) (Nat.le_refl _) ⟨by rw [List.length_replicate, hL], fun j u hj hu => by
   have := (List.getElem?_eq_some_iff.mp hu).1
   omega⟩
  rw [gd_pos (by omega), e, Int.toNat_natCast, h1, Option.bind_some, told_map h2]
  unfold hss
  rw [if_neg he]
theorem hss_len {l : List Pair} : (hss l).length = (tri l).length := by
 unfold hss tri
 split
 ·rfl
 ·rw [List.length_map, T.trs_len, T.flat_len]
/-- The root of the trie of pairs. -/
noncomputable def rt (l : List Pair) : ByteArray := if l = [] then dg ⟨#[0]⟩ else (tre l).hsh
theorem empty_ok : root_Empty.f = some (dg ⟨#[0]⟩) := by
 unfold root_Empty.f
 rw [(dg_ok (s := ⟨#[0]⟩) (by decide)).1]
 rfl
theorem hss_zero {l : List Pair} (h : l ≠ []) : (hss l).getD 0 default = (tre l).hsh := by
 unfold hss
 rw [if_neg h]
 generalize tre l = t
 obtain ⟨lab, ks⟩ := t
 simp [T.trs]
theorem rItem_ok {l : List Pair} (hm : MayP l) (hl : l.length < 10000) (h0 : 0 < l.length) {i : Nat} (hi : i < (tri l).length) : ∃ u, (tre l).trs[i]? = some u ∧ Pos (tri l) (tre l).trs i u ∧ root_Item.f (tri l) (i : Int) = some (u.item, true) := by
 obtain ⟨u, u1, u2⟩ := tre_pos hm (by omega) h0 hi
 refine ⟨u, u1, u2, ?_⟩
 have he : l ≠ [] := List.length_pos_iff.mp h0
 have hh : hss l = (tre l).trs.map T.hsh := by unfold hss; rw [if_neg he]
 have hT := told_of (tre l).trs
 unfold root_Item.f
 rw [bif_false (c := decide ((i : Int) < 0)) (decide_eq_false (by omega)), bif_false (c := decide ((i : Int) ≥ ((tri l).length : Int))) (decide_eq_false (by omega)), good_ok hm hl]
 simp only [Option.bind_some, Bool.not_true]
 rw [bif_false rfl, gd_pos (by omega), rhashes_ok hm hl, Option.bind_some, hh, item_ok u2 ⟨hT.1, fun j v _ hv => hT.2 j v (Nat.zero_le _) hv⟩]
 rfl
end Go.Lf
/- When pairs are too long for a law. -/
set_option linter.unusedVariables false
set_option linter.unusedSimpArgs false
namespace Go.Lf
open Go
theorem long_l0 {l : List Pair} : ∀ (fuel i n : Nat), 3001 - n < fuel → i ≤ n → n ≤ 10000 → ∃ y : Nat, keep_LongPairs.l0 l fuel ((n : Int), (i : Int)) = some (y : Int) ∧ y ≤ 10000 ∧ (y ≤ 3000 → l.length ≤ y)
 | 0, i, n, h, _, _ => by omega
 | fuel + 1, i, n, h, hi, hn => by
  rw [keep_LongPairs.l0]
  rcases Nat.lt_or_ge i l.length with hl | hl
  ·rw [bif_true (decide_eq_true (by omega)), Option.bind_some]
   by_cases hc : n ≤ 3000
   ·rw [bif_true (decide_eq_true (by omega)), gd_pos (by omega), gd_pos (by omega)]
    obtain ⟨x, hx, hx'⟩ : ∃ x : Nat, (if (3000 : Int) < (((gt l (i : Int)).key_).size : Int) then 3000 else (((gt l (i : Int)).key_).size : Int)) = (x : Int) ∧ x ≤ 3000 := by
     split
     ·exact ⟨3000, rfl, by omega⟩
     ·exact ⟨_, rfl, by omega⟩
    obtain ⟨z, hz, hz'⟩ : ∃ z : Nat, (if (3000 : Int) < (((gt l (i : Int)).value_).size : Int) then 3000 else (((gt l (i : Int)).value_).size : Int)) = (z : Int) ∧ z ≤ 3000 := by
     split
     ·exact ⟨3000, rfl, by omega⟩
     ·exact ⟨_, rfl, by omega⟩
    rw [hx, hz, w64_nat (x := 1 + (x : Int)) (k := 1 + x) (by simp) (by omega), w64_nat (x := ((1 + x : Nat) : Int) + (z : Int)) (k := 1 + x + z) (by simp) (by omega), w64_nat (x := (n : Int) + ((1 + x + z : Nat) : Int)) (k := n + (1 + x + z)) (by simp) (by omega), w64_nat (x := (i : Int) + 1) (k := i + 1) (by simp) (by omega)]
    exact long_l0 fuel (i + 1) (n + (1 + x + z)) (by omega) (by omega) (by omega)
   ·rw [bif_false (decide_eq_false (by omega))]
    exact ⟨n, rfl, hn, fun h => by omega⟩
  ·rw [bif_false (decide_eq_false (by omega)), Option.bind_some, bif_false rfl]
   exact ⟨n, rfl, hn, fun h => by omega⟩
theorem long_ok (l : List Pair) : keep_LongPairs.f l = some true ∨ keep_LongPairs.f l = some false ∧ l.length ≤ 3000 := by
 unfold keep_LongPairs.f
 obtain ⟨y, h1, h2, h3⟩ := long_l0 (l := l) BIG 0 0 (by have := BIG_ge; omega) (by omega) (by omega)
 rw [show ((0 : Nat) : Int) = 0 from rfl] at h1
 rw [h1]
 simp only [Option.bind_some]
 by_cases h : y ≤ 3000
 ·exact .inr ⟨by simp; omega, by have := h3 h; omega⟩
 ·exact .inl (by simp; omega)
end Go.Lf
/- Lists of texts, and Items, are compared. -/
set_option linter.unusedVariables false
set_option linter.unusedSimpArgs false
namespace Go.Lf
open Go
theorem Item.ext' {i j : Item} (h1 : i.kind_ = j.kind_) (h2 : i.path_ = j.path_) (h3 : i.has_ = j.has_) (h4 : i.value_ = j.value_) (h5 : i.mask_ = j.mask_) (h6 : i.hashes_ = j.hashes_) : i = j := by
 obtain ⟨a, b, c, d, e, f⟩ := i
 obtain ⟨a', b', c', d', e', f'⟩ := j
 simp only at h1 h2 h3 h4 h5 h6
 subst h1 h2 h3 h4 h5 h6
 rfl
end Go.Lf
/- The document's walk over the trie of pairs. -/
set_option linter.unusedVariables false
set_option linter.unusedSimpArgs false
namespace Go.Lf
open Go
theorem pk_two {x : List Nat} {k : Nat} (h : 2 * k + 1 < x.length) : pk (x.drop (2 * k)) = (16 * x.getD (2 * k) 0 + x.getD (2 * k + 1) 0) :: pk (x.drop (2 * (k + 1))) := by
 rw [drop_cons 0 (show 2 * k < x.length by omega), drop_cons 0 (show 2 * k + 1 < x.length by omega), pk]
 rfl
theorem key02_l0 {s : ByteArray} (hs : s.size ≤ 16) (he : s.size % 2 = 0) (hm : Sml s) : ∀ (n fuel k : Nat) (acc : List Int), s.size = 2 * k + 2 * n → 2 * n < fuel → acc.length ≤ k → ref02_Key.l0 s fuel (acc, ((2 * k : Nat) : Int)) = some (.inl (acc ++ (pk ((B s).drop (2 * k))).map Int.ofNat))
 | 0, 0, k, acc, h, hf, _ => by omega
 | n, fuel + 1, k, acc, h, hf, ha => by
  have ev : ((((s.size : Int).tmod 2) != 0)) = false := by
   have : ((s.size : Int).tmod 2) = ((s.size % 2 : Nat) : Int) := by rw [show (2 : Int) = ((2 : Nat) : Int) from rfl, ← Int.ofNat_tmod]
   rw [this, he]
   rfl
  rw [ref02_Key.l0]
  cases n with
  | zero =>
   rw [bif_false (decide_eq_false (by omega)), List.drop_eq_nil_of_le (by rw [B_len]; omega)]
   simp [pk]
  | succ n =>
   obtain ⟨fuel, rfl⟩ : ∃ f, fuel = f + 1 := ⟨fuel - 1, by omega⟩
   have hb : ∀ i, i < s.size → (B s).getD i 0 < 16 := fun i hi => by
    apply hm
    rw [List.getD_eq_getElem?_getD, List.getElem?_eq_getElem (by rw [B_len]; exact hi), Option.getD_some]
    exact List.getElem_mem _
   have h0 := hb (2 * k) (by omega)
   have h1 := hb (2 * k + 1) (by omega)
   have b0 : bt s ((2 * k : Nat) : Int) = (((B s).getD (2 * k) 0 : Nat) : Int) := bt_B _ _
   have b1 : bt s ((2 * k + 1 : Nat) : Int) = (((B s).getD (2 * k + 1) 0 : Nat) : Int) := bt_B _ _
   have t0 : (((2 * k : Nat) : Int).tmod 2 == 1) = false := by
    have : ((2 * k : Nat) : Int).tmod 2 = ((2 * k % 2 : Nat) : Int) := by rw [show (2 : Int) = ((2 : Nat) : Int) from rfl, ← Int.ofNat_tmod]
    rw [this, Nat.mul_mod_right]
    rfl
   have t1 : (((2 * k + 1 : Nat) : Int).tmod 2 == 1) = true := by
    have : ((2 * k + 1 : Nat) : Int).tmod 2 = (((2 * k + 1) % 2 : Nat) : Int) := by rw [show (2 : Int) = ((2 : Nat) : Int) from rfl, ← Int.ofNat_tmod]
    rw [this, show (2 * k + 1) % 2 = 1 by omega]
    rfl
   rw [bif_true (decide_eq_true (by omega)), gd_pos (by omega), b0, bif_false (decide_eq_false (by omega)), ev, Option.bind_some, bif_false rfl, t0, bif_false rfl]
   simp only [Option.bind_some]
   rw [w64_nat (x := ((2 * k : Nat) : Int) + 1) (k := 2 * k + 1) (by simp) (by omega), ref02_Key.l0]
   have e0 : w64 (((2 * k + 1 : Nat) : Int) - 1) = ((2 * k : Nat) : Int) := w64_nat (by omega) (by omega)
   rw [bif_true (decide_eq_true (by omega)), gd_pos (by omega), b1, bif_false (decide_eq_false (by omega)), ev, Option.bind_some, bif_false rfl, t1, bif_true rfl, e0, gd_pos (by omega), gd_pos (by omega), gd_pos (by omega), b0]
   simp only [Option.bind_some]
   rw [w64_nat (x := ((2 * k + 1 : Nat) : Int) + 1) (k := 2 * (k + 1)) (by omega) (by omega)]
   have hw : wu8 (wu8 ((((B s).getD (2 * k) 0 : Nat) : Int) * 16) + (((B s).getD (2 * k + 1) 0 : Nat) : Int)) = ((16 * (B s).getD (2 * k) 0 + (B s).getD (2 * k + 1) 0 : Nat) : Int) := by
    rw [wu8_id (x := (((B s).getD (2 * k) 0 : Nat) : Int) * 16) (by omega), wu8_id (x := (((B s).getD (2 * k) 0 : Nat) : Int) * 16 + (((B s).getD (2 * k + 1) 0 : Nat) : Int)) (by omega)]
    omega
   rw [hw, key02_l0 hs he hm n fuel (k + 1) _ (by omega) (by omega) (by simp; omega), pk_two (k := k) (by rw [B_len]; omega)]
   simp
theorem key02_ok {s : ByteArray} (hs : s.size ≤ 16) (he : s.size % 2 = 0) (hm : Sml s) : ref02_Key.f s = some ⟨pck s, true⟩ := by
 unfold ref02_Key.f
 have h := key02_l0 hs he hm (s.size / 2) BIG 0 [] (by omega) (by have := BIG_ge; omega) (by simp)
 rw [Nat.mul_zero, show ((0 : Nat) : Int) = 0 from rfl, List.drop_zero] at h
 rw [h]
 simp only [Option.bind_some, List.nil_append]
 congr 2
 apply B_inj
 rw [B_pck hm, B_strOfNums]
 ·rw [List.map_map]
  exact (List.map_congr_left (fun _ _ => rfl)).trans (List.map_id _)
 ·intro x hx
  obtain ⟨y, hy, rfl⟩ := List.mem_map.mp hx
  have := pk_lt hm y hy
  exact ⟨Int.natCast_nonneg _, by show (y : Int) < 256; omega⟩
/-- The children are met, and nothing beneath them is. -/
def Ks.Hd (met : List Bool) (to : List ByteArray) (q : ByteArray) (br : Bool) : Ks → Nat → Prop
 | .nil, _ => True
 | .cons c t r, b => met.getD b false = true ∧ to.getD b default = (if br then q ++ strOfNums [(c : Int)] else q) ∧ (∀ j, b < j → j < b + t.sz → met.getD j false = false) ∧ r.Hd met to q br (b + t.sz)
theorem Ks.Hd_congr {met met' : List Bool} {to to' : List ByteArray} {q : ByteArray} {br : Bool} : ∀ {ks : Ks} {b : Nat}, (∀ j, b ≤ j → met'.getD j false = met.getD j false ∧ to'.getD j default = to.getD j default) → ks.Hd met to q br b → ks.Hd met' to' q br b
 | .nil, _, _, _ => trivial
 | .cons c t r, b, h, ⟨h1, h2, h3, h4⟩ => by
  refine ⟨by rw [(h b (Nat.le_refl _)).1, h1], by rw [(h b (Nat.le_refl _)).2, h2], fun j hj hj' => by rw [(h j (by omega)).1, h3 j hj hj'], Ks.Hd_congr (fun j hj => h j (by omega)) h4⟩
theorem getD_setN {α : Type} {X : List α} {v u : Nat} {x d : α} (hv : v < X.length) : (X.set v x).getD u d = if u = v then x else X.getD u d := by
 rw [List.getD_eq_getElem?_getD, List.getD_eq_getElem?_getD, List.getElem?_set]
 split
 ·rename_i h
  subst h
  simp [hv]
 ·rename_i h
  rw [if_neg (fun e => h e.symm)]
theorem kids_l1 {a : List Node} {tf : List ByteArray} {f : Nat} (ha : a.length < 1000000000) {q : ByteArray} (hq : gt tf (f : Int) ++ (gt a (f : Int)).path_ = q) (hqs : q.size ≤ 2000) {br : Bool} (hbr : ((gt a (f : Int)).kind_ == 3) = br) :
  ∀ (fuel m : Nat) (ks : Ks) (bk : Nat) (met : List Bool) (to : List ByteArray), 16 - m < fuel → m ≤ 16 → ks.at bk (gt a (f : Int)).kids_ m → f < bk → bk + ks.sz ≤ a.length → met.length = a.length → to.length = a.length →
   (∀ j, bk ≤ j → j < bk + ks.sz → met.getD j false = false) →
   ∃ met' to', ref10_Pairs.l1 a tf f fuel (met, to, (m : Int)) = some (.inl (met', to')) ∧ met'.length = a.length ∧ to'.length = a.length ∧ ks.Hd met' to' q br bk ∧ ∀ j, (j < bk ∨ bk + ks.sz ≤ j) → met'.getD j false = met.getD j false ∧ to'.getD j default = to.getD j default
 | 0, m, ks, bk, met, to, h, _, _, _, _, _, _, _ => by omega
 | fuel + 1, m, ks, bk, met, to, h, hm, hat, hfb, hsz, hml, htl, hnm => by
  rw [ref10_Pairs.l1]
  rcases Nat.lt_or_ge m 16 with h16 | h16
  ·rw [bif_true (decide_eq_true (by omega)), gd_pos (by omega), w64_nat (x := (m : Int) + 1) (k := m + 1) (by simp) (by omega)]
   rcases Ks.at_step hat h16 with ⟨h0, hat'⟩ | ⟨t, r, rfl, h0, hat'⟩
   ·rw [h0, bif_true (c := (0 : Int) == 0) rfl]
    simp only [Option.bind_some]
    exact kids_l1 ha hq hqs hbr fuel (m + 1) ks bk met to (by omega) (by omega) hat' hfb hsz hml htl hnm
   ·have hpos := T.sz_pos t
    have hksz : (Ks.cons m t r).sz = t.sz + r.sz := rfl
    have hne : ((bk : Int) == 0) = false := by rw [beq_eq_false_iff_ne]; omega
    have hg : gt met (bk : Int) = false := by
     have := hnm bk (Nat.le_refl _) (by omega)
     exact this
    have hset1 : (to.set bk q).length = a.length := by rw [List.length_set, htl]
    have hgs : gt (to.set bk q) (bk : Int) = q := by rw [gt_nat, getD_setN (by omega), if_pos rfl]
    rw [h0, hne, bif_false rfl, bif_false (decide_eq_false (by omega)), bif_false (decide_eq_false (by omega)), gd_pos (by omega), hg, Option.bind_some, bif_false rfl, gd_pos (by omega), gd_pos (by omega), hbr, Int.toNat_natCast, hq]
    have key : (bif br then
          gd (0 ≤ (bk : Int) ∧ (bk : Int) < ((to.set bk q).length : Int)) <|
          gd ((gt (to.set bk q) (bk : Int)).size + (strOfNums [wu8 (m : Int)]).size ≤ 9223372036854775807) <|
          gd (0 ≤ (bk : Int) ∧ (bk : Int) < ((to.set bk q).length : Int)) <|
          some (.inl (met.set bk true, (to.set bk q).set bk ((gt (to.set bk q) (bk : Int)) ++ (strOfNums [wu8 (m : Int)]))))
         else
          some (.inl (met.set bk true, to.set bk q)) : Option ((List Bool × List ByteArray) ⊕ ref10_Got_T)) = some (.inl (met.set bk true, to.set bk (if br then q ++ strOfNums [(m : Int)] else q))) := by
     cases br
     ·rfl
     ·rw [bif_true rfl, hset1, gd_pos (by omega), hgs, gd_pos (by rw [strOfNums_size]; simp; omega), gd_pos (by omega), wu8_id (x := (m : Int)) (by omega), List.set_set]
      rfl
    rw [key]
    simp only [Option.bind_some]
    obtain ⟨met', to', e1, e2, e3, e4, e5⟩ := kids_l1 ha hq hqs hbr fuel (m + 1) r (bk + t.sz) (met.set bk true) (to.set bk (if br then q ++ strOfNums [(m : Int)] else q)) (by omega) (by omega) hat' (by omega) (by omega) (by rw [List.length_set]; exact hml) (by rw [List.length_set]; exact htl) (fun j hj hj' => by
     rw [getD_setN (by omega), if_neg (by omega)]
     exact hnm j (by omega) (by omega))
    refine ⟨met', to', e1, e2, e3, ⟨?_, ?_, fun j hj hj' => ?_, e4⟩, fun j hj => ?_⟩
    ·rw [(e5 bk (by omega)).1, getD_setN (by omega), if_pos rfl]
    ·rw [(e5 bk (by omega)).2, getD_setN (by omega), if_pos rfl]
    ·rw [(e5 j (by omega)).1, getD_setN (by omega), if_neg (by omega)]
     exact hnm j (by omega) (by omega)
    ·obtain ⟨g1, g2⟩ := e5 j (by omega)
     rw [g1, g2, getD_setN (by omega), getD_setN (by omega), if_neg (by omega), if_neg (by omega)]
     exact ⟨rfl, rfl⟩
  ·rw [bif_false (decide_eq_false (by omega))]
   have : ks = .nil := by
    cases ks with
    | nil => rfl
    | cons c t r =>
     obtain ⟨h1, h2, -⟩ := hat
     omega
   subst this
   exact ⟨met, to, rfl, hml, htl, trivial, fun j _ => ⟨rfl, rfl⟩⟩
theorem fit_short {l : Lab} {ks : Ks} {p : ByteArray} (hf : (T.node l ks).fit) (hw : (T.node l ks).wf p) (hc : ∀ x ∈ (T.node l ks).prs p, x.1.size ≤ 16) : (p ++ l.path).size ≤ 16 := by
 obtain ⟨-, -, -, h4, -⟩ := hf
 obtain ⟨-, -, -, -, w5⟩ := hw
 by_cases hh : l.has = true
 ·have := hc (p ++ l.path, l.value) (by rw [T.prs, if_pos hh]; simp)
  exact this
 ·cases ks with
  | nil =>
   rcases h4 with ⟨-, k2, -⟩ | ⟨-, -, -, t, k4⟩ | ⟨-, -, k3 | ⟨k3, -⟩⟩
   ·exact absurd k2 hh
   ·cases k4
   ·simp [Ks.cnt] at k3
   ·exact absurd k3 hh
  | cons c t r =>
   have h1 := w5.1
   obtain ⟨lab, ks'⟩ := t
   have h2 := h1.1
   split at h2
   ·rw [app_size] at h2
    omega
   ·exact h2
mutual
theorem T.rp {a : List Node} (ha : a.length < 1000000) : ∀ (t : T) (b : Nat) (p : ByteArray) (met : List Bool) (to : List ByteArray) (L : List Pair), Lies a b t → t.fit → t.wf p → (∀ x ∈ t.prs p, x.1.size ≤ 16) → met.length = a.length → to.length = a.length →
  (0 < b → met.getD b false = true) → to.getD b default = p → (∀ j, b < j → j < b + t.sz → met.getD j false = false) → L.length ≤ b →
  ∃ met' to', (∀ fuel, ref10_Pairs.l0 a (fuel + t.sz) (met, L, to, (b : Int)) = ref10_Pairs.l0 a fuel (met', L ++ (t.prs p).map prp, to', ((b + t.sz : Nat) : Int))) ∧ met'.length = a.length ∧ to'.length = a.length ∧ ∀ j, (j ≤ b ∨ b + t.sz ≤ j) → met'.getD j false = met.getD j false ∧ to'.getD j default = to.getD j default
 | .node l ks, b, p, met, to, L, hl, hf, hw, hc, hml, htl, hmb, htb, hint, hL => by
  have hlt := hl.lt
  have hsz : (T.node l ks).sz = ks.sz + 1 := rfl
  have hshort := fit_short hf hw hc
  have hg := hl.get
  obtain ⟨w1, w2, w3, w4, w5⟩ := hw
  obtain ⟨⟨f1, f2, f3⟩, f4, f5, f6, f7⟩ := hf
  have e1 : (gt a (b : Int)).path_ = l.path := by rw [hg]; rfl
  have e2 : (gt a (b : Int)).has_ = l.has := by rw [hg]; rfl
  have e3 : (gt a (b : Int)).value_ = l.value := by rw [hg]; rfl
  have e4 : (gt a (b : Int)).kind_ = l.kind := by rw [hg]; rfl
  have e5 : gt to (b : Int) = p := htb
  have hat : ks.at (b + 1) (gt a (b : Int)).kids_ 0 := by rw [hg]; exact Ks.at_vec0 f4
  obtain ⟨met1, to1, k1, k2, k3, k4, k5⟩ := kids_l1 (a := a) (tf := to) (f := b) (by omega) (q := p ++ l.path) (by rw [e5, e1]) (by omega) (br := l.kind == 3) (by rw [e4]) BIG 0 ks (b + 1) met to (by have := BIG_ge; omega) (by omega) hat (by omega) (by omega) hml htl (fun j hj hj' => hint j (by omega) (by omega))
  rw [show ((0 : Nat) : Int) = 0 from rfl] at k1
  obtain ⟨met2, to2, r1, r2, r3, r4⟩ := Ks.rp ha ks (b + 1) (p ++ l.path) (l.kind == 3) met1 to1 (L ++ if l.has then [prp (p ++ l.path, l.value)] else []) hl.kids f7 w5 (fun x hx => hc x (by rw [T.prs]; exact List.mem_append_right _ hx)) k4 k2 k3 (by split <;> simp <;> omega)
  refine ⟨met2, to2, fun fuel => ?_, r2, r3, fun j hj => ?_⟩
  ·rw [hsz, ← Nat.add_assoc, ref10_Pairs.l0]
   have c1 : (bif decide ((b : Int) > 0) then
      gd (0 ≤ (b : Int) ∧ (b : Int) < (met.length : Int)) <|
      some (!(gt met (b : Int)))
     else
      some false) = some false := by
    by_cases hb : 0 < b
    ·have hmt : gt met (b : Int) = true := by
      have := hmb hb
      rw [gt_nat]
      rw [List.getD_eq_getElem?_getD, List.getElem?_eq_getElem (by omega)] at this ⊢
      exact this
     rw [bif_true (decide_eq_true (by omega)), gd_pos (by omega), hmt]
     rfl
    ·rw [bif_false (decide_eq_false (by omega))]
   rw [bif_true (decide_eq_true (by omega)), c1, Option.bind_some, bif_false rfl, gd_pos (by omega), gd_pos (by omega), e5, e1, gd_pos (by omega), bif_false (decide_eq_false (by omega)), Option.bind_some, bif_false (decide_eq_false (by omega)), e2, e3]
   have c2 : (bif l.has then
          (ref02_Key.f (p ++ l.path)).bind fun y8322 =>
          bif !y8322.ok_ then
           some (.inr (⟨([] : List Pair), false⟩ : ref10_Got_T))
          else
           gd (L.length + 1 ≤ 274877906944) <|
           some (.inl (L ++ [(⟨y8322.s_, l.value⟩ : Pair)]))
         else
          some (.inl L) : Option ((List Pair) ⊕ ref10_Got_T)) = some (.inl (L ++ if l.has then [prp (p ++ l.path, l.value)] else [])) := by
    cases hh : l.has
    ·simp
    ·obtain ⟨v1, v2⟩ := w3 hh
     rw [bif_true rfl, key02_ok hshort v1 v2, Option.bind_some]
     simp only [Bool.not_true]
     rw [bif_false rfl, gd_pos (by omega)]
     rfl
   rw [c2]
   simp only [Option.bind_some]
   rw [k1]
   simp only [Option.bind_some]
   rw [w64_nat (x := (b : Int) + 1) (k := b + 1) (by simp) (by omega), r1 fuel]
   rw [T.prs, List.map_append]
   have : (if l.has = true then [prp (p ++ l.path, l.value)] else []) = List.map prp (if l.has = true then [(p ++ l.path, l.value)] else []) := by split <;> rfl
   rw [this, List.append_assoc, show b + 1 + ks.sz = b + (ks.sz + 1) by omega]
  ·obtain ⟨g1, g2⟩ := r4 j (by omega)
   obtain ⟨g3, g4⟩ := k5 j (by omega)
   exact ⟨by rw [g1, g3], by rw [g2, g4]⟩
theorem Ks.rp {a : List Node} (ha : a.length < 1000000) : ∀ (ks : Ks) (b : Nat) (q : ByteArray) (br : Bool) (met : List Bool) (to : List ByteArray) (L : List Pair), ks.all (fun t i => Lies a i t) b → ks.fit → ks.wf q br → (∀ x ∈ ks.prs q br, x.1.size ≤ 16) → ks.Hd met to q br b → met.length = a.length → to.length = a.length → L.length ≤ b →
  ∃ met' to', (∀ fuel, ref10_Pairs.l0 a (fuel + ks.sz) (met, L, to, (b : Int)) = ref10_Pairs.l0 a fuel (met', L ++ (ks.prs q br).map prp, to', ((b + ks.sz : Nat) : Int))) ∧ met'.length = a.length ∧ to'.length = a.length ∧ ∀ j, (j < b ∨ b + ks.sz ≤ j) → met'.getD j false = met.getD j false ∧ to'.getD j default = to.getD j default
 | .nil, b, q, br, met, to, L, _, _, _, _, _, hml, htl, _ => ⟨met, to, fun fuel => by simp [Ks.sz, Ks.prs], hml, htl, fun _ _ => ⟨rfl, rfl⟩⟩
 | .cons c t r, b, q, br, met, to, L, hl, hf, hw, hc, hh, hml, htl, hL => by
  obtain ⟨h1, h2, h3, h4⟩ := hh
  have hp := T.prs_len t (if br then q ++ strOfNums [(c : Int)] else q)
  have hpos := T.sz_pos t
  obtain ⟨met1, to1, k1, k2, k3, k4⟩ := T.rp ha t b (if br then q ++ strOfNums [(c : Int)] else q) met to L hl.1 hf.1 hw.1 (fun x hx => hc x (by rw [Ks.prs]; exact List.mem_append_left _ hx)) hml htl (fun _ => h1) h2 h3 hL
  obtain ⟨met2, to2, r1, r2, r3, r4⟩ := Ks.rp ha r (b + t.sz) q br met1 to1 (L ++ (t.prs (if br then q ++ strOfNums [(c : Int)] else q)).map prp) hl.2 hf.2 hw.2 (fun x hx => hc x (by rw [Ks.prs]; exact List.mem_append_right _ hx)) (Ks.Hd_congr (fun j hj => k4 j (by omega)) h4) k2 k3 (by simp; omega)
  refine ⟨met2, to2, fun fuel => ?_, r2, r3, fun j hj => ?_⟩
  ·rw [Ks.sz, show fuel + (t.sz + r.sz) = (fuel + r.sz) + t.sz by omega, k1, r1, Ks.prs, List.map_append, List.append_assoc, Nat.add_assoc]
  ·rw [Ks.sz] at hj
   obtain ⟨g1, g2⟩ := r4 j (by omega)
   obtain ⟨g3, g4⟩ := k4 j (by omega)
   exact ⟨by rw [g1, g3], by rw [g2, g4]⟩
end
theorem rsame_l0 {a : List Node} (ha : a.length < 1000000000) : ∀ (fuel i : Nat), a.length - i < fuel → ref10_Same.l0 a a fuel i = some (.inl ())
 | 0, i, h => by omega
 | fuel + 1, i, h => by
  rw [ref10_Same.l0]
  rcases Nat.lt_or_ge i a.length with hi | hi
  ·have g : 0 ≤ (i : Int) ∧ (i : Int) < (a.length : Int) := by omega
   rw [bif_true (decide_eq_true g.2), gd_pos g, gd_pos g, w64_nat (x := (i : Int) + 1) (k := i + 1) (by simp) (by omega)]
   have : eq_Node (gt a (i : Int)) (gt a (i : Int)) = true := by simp [eq_Node]
   rw [this, bif_false (c := !true) rfl]
   exact rsame_l0 ha fuel (i + 1) (by omega)
  ·rw [bif_false (decide_eq_false (by omega))]
theorem rsame_ok {a : List Node} (ha : a.length < 1000000000) : ref10_Same.f a a = some true := by
 unfold ref10_Same.f
 rw [bif_false (c := (a.length : Int) != (a.length : Int)) (by simp)]
 have := rsame_l0 ha BIG 0 (by have := BIG_ge; omega)
 rw [show ((0 : Nat) : Int) = 0 from rfl] at this
 rw [this]
 rfl
theorem rpairs_ok {l : List Pair} (hm : MayP l) (hl : l.length < 10000) : ref10_Pairs.f (tri l) = some ⟨l, true⟩ := by
 unfold ref10_Pairs.f
 by_cases he : l = []
 ·subst he
  have e : tri ([] : List Pair) = [] := rfl
  obtain ⟨B, hB⟩ : ∃ B, BIG = B + 1 := ⟨BIG - 1, by have := BIG_ge; omega⟩
  have hb := Build2_ok hm (by simp)
  rw [e] at hb ⊢
  rw [gd_pos (by simp), gd_pos (by simp), hB, ref10_Pairs.l0, bif_false (by simp)]
  simp only [Option.bind_some]
  rw [hb]
  simp only [Option.bind_some, Bool.not_true]
  rw [bif_false rfl, rsame_ok (by simp)]
  rfl
 ·have h0 : 0 < l.length := List.length_pos_iff.mpr he
  have hsz := tre_sz (l := l) (by omega) h0
  have htl := tri_len (l := l) h0
  have hpos := T.sz_pos (tre l)
  have hprs := tre_prs hm (by omega) h0
  obtain ⟨met', to', r1, -, -, -⟩ := T.rp (a := tri l) (by omega) (tre l) 0 ⟨#[]⟩ (List.replicate (tri l).length false) (List.replicate (tri l).length ⟨#[]⟩) [] ⟨[], [], by rw [tri, if_neg he]; simp, rfl⟩ (tre_fit hm (by omega) h0) (tre_wf hm (by omega) h0) (fun x hx => by
   have hmem : prp x ∈ l := by
    rw [← hprs]
    exact List.mem_map.mpr ⟨x, hx, rfl⟩
   obtain ⟨i, hi, e⟩ := List.mem_iff_getElem.mp hmem
   have h1 := (hm i hi).2.1
   have h2 : key l i = pck x.1 := by
    unfold key
    rw [List.getD_eq_getElem?_getD, List.getElem?_eq_getElem hi, Option.getD_some, e]
    rfl
   rw [h2] at h1
   have h3 : (pck x.1).size = (x.1.size + 1) / 2 := by
    unfold pck
    rw [← B_len]
    have : ∀ y : List Nat, (B (S y)).length = y.length := by
     intro y
     simp [B, S]
    rw [this, pk_len, B_len]
   omega) (by simp) (by simp) (by omega) (by
    rw [List.getD_eq_getElem?_getD, List.getElem?_replicate, if_pos (by omega)]
    rfl) (fun j _ hj => by
    rw [List.getD_eq_getElem?_getD, List.getElem?_replicate]
    split <;> rfl) (by simp)
  rw [hprs] at r1
  simp only [List.nil_append, Nat.zero_add] at r1
  obtain ⟨B, hB⟩ : ∃ B, BIG = (B + 1) + (tre l).sz := ⟨BIG - 1 - (tre l).sz, by have := BIG_ge; omega⟩
  rw [show ((0 : Nat) : Int) = 0 from rfl] at r1
  rw [gd_pos (by omega), gd_pos (by omega), Int.toNat_natCast, hB, r1, ref10_Pairs.l0, bif_false (decide_eq_false (by omega))]
  simp only [Option.bind_some]
  rw [Build2_ok hm (by omega)]
  simp only [Option.bind_some, Bool.not_true]
  rw [bif_false rfl, rsame_ok (by omega)]
  rfl
theorem rgood_ok {l : List Pair} (hm : MayP l) (hl : l.length < 10000) : ref10_Good.f (tri l) = some true := by
 unfold ref10_Good.f
 rw [rpairs_ok hm hl]
 rfl
end Go.Lf
/- The way of a key, by both walks; the proof of a key. -/
set_option linter.unusedVariables false
set_option linter.unusedSimpArgs false
namespace Go.Lf
open Go
theorem comm_pre : ∀ x y : List Nat, x.take y.length = y → comm x y = y.length
 | x, [], _ => by have := comm_le_right x []; simpa using this
 | [], b :: y, h => by simp at h
 | a :: x, b :: y, h => by
  simp only [List.length_cons, List.take_succ_cons, List.cons.injEq] at h
  unfold comm
  rw [if_pos h.1, comm_pre x y h.2]
  rfl
theorem comm_iff (x y : List Nat) : comm x y = y.length ↔ x.take y.length = y := by
 refine ⟨fun h => ?_, comm_pre x y⟩
 have := comm_take x y
 rw [h, List.take_length] at this
 exact this
theorem hasP_ok (s p : ByteArray) : internal_stringslite_HasPrefix.f s p = some (decide ((B s).take p.size = B p)) := by
 unfold internal_stringslite_HasPrefix.f
 by_cases h : p.size ≤ s.size
 ·rw [bif_true (decide_eq_true (by omega)), gd_pos (by omega), seq_B, Option.bind_some]
  congr 1
  rw [decide_eq_decide]
  have e : B (sub s 0 (p.size : Int)) = (B s).take p.size := by rw [B_sub]; simp
  exact ⟨fun h => by rw [← e, h], fun h => B_inj (by rw [e, h])⟩
 ·rw [bif_false (decide_eq_false (by omega)), Option.bind_some, decide_eq_false]
  intro e
  have := congrArg List.length e
  rw [List.length_take, B_len, B_len] at this
  omega
theorem cutP_ok (s p : ByteArray) : strings_CutPrefix.f s p = some (if (B s).take p.size = B p then (sub s (p.size : Int) (s.size : Int), true) else (s, false)) := by
 unfold strings_CutPrefix.f internal_stringslite_CutPrefix.f
 rw [hasP_ok, Option.bind_some]
 by_cases h : (B s).take p.size = B p
 ·have h2 : p.size ≤ s.size := by
   have := congrArg List.length h
   rw [List.length_take, B_len, B_len] at this
   omega
  rw [decide_eq_true h, Bool.not_true, bif_false rfl, gd_pos (by omega), if_pos h]
  rfl
 ·rw [decide_eq_false h, Bool.not_false, bif_true rfl, if_neg h]
  rfl
theorem emp_iff (s : ByteArray) : s = ⟨#[]⟩ ↔ s.size = 0 := by
 refine ⟨fun h => by rw [h]; rfl, fun h => B_inj ?_⟩
 rw [B_empty]
 exact List.length_eq_zero_iff.mp (by rw [B_len, h])
/-- One step down: the next node, or 0, and what is left of the key. -/
def stp (a : List Node) (s : ByteArray) (i : Int) : Int × ByteArray :=
 if (gt a i).kind_ = 2 then (if (B s).take (gt a i).path_.size = B (gt a i).path_ then (vg (gt a i).kids_ 0, sub s ((gt a i).path_.size : Int) (s.size : Int)) else (0, s))
 else if (gt a i).kind_ = 3 then (if s.size = 0 then (0, s) else if vg (gt a i).kids_ (bt s 0) = 0 then (0, s) else (vg (gt a i).kids_ (bt s 0), sub s 1 (s.size : Int)))
 else (0, s)
theorem bt_sml {s : ByteArray} (hs : Sml s) (h : 0 < s.size) : 0 ≤ bt s 0 ∧ bt s 0 < 16 := by
 have := get_small hs h
 have e : bt s 0 = (((B s).getD 0 0 : Nat) : Int) := bt_B s 0
 omega
theorem next_ok {a : List Node} {s : ByteArray} {acc : List Int} {i : Nat} (hi : i < a.length) (hs : Sml s) (hacc : acc.length < 1000000) : get_way_next.f a s (acc ++ [(i : Int)]) = some (stp a s i) := by
 unfold get_way_next.f stp
 have e1 : w64 (((acc ++ [(i : Int)]).length : Int) - 1) = (acc.length : Int) := w64_nat (by simp) (by omega)
 have e2 : gt (acc ++ [(i : Int)]) (acc.length : Int) = (i : Int) := gt_end _ _ _
 rw [e1, e2, gd_pos (by simp; omega), gd_pos (by omega)]
 by_cases k2 : (gt a (i : Int)).kind_ = 2
 ·rw [bif_true (c := (gt a (i : Int)).kind_ == 2) (by simpa using k2), cutP_ok, if_pos k2]
  by_cases h : (B s).take (gt a (i : Int)).path_.size = B (gt a (i : Int)).path_
  ·rw [if_pos h, if_pos h]
   simp only [Option.bind_some]
   rw [bif_false (c := !true) rfl, gd_pos (by omega)]
  ·rw [if_neg h, if_neg h]
   rfl
 ·rw [bif_false (c := (gt a (i : Int)).kind_ == 2) (by simpa using k2), if_neg k2]
  by_cases k3 : (gt a (i : Int)).kind_ = 3
  ·rw [bif_true (c := (gt a (i : Int)).kind_ == 3) (by simpa using k3), if_pos k3, seq_B]
   by_cases h0 : s.size = 0
   ·rw [decide_eq_true ((emp_iff s).mpr h0), bif_true rfl, Option.bind_some, bif_true rfl, if_pos h0]
   ·have hb := bt_sml hs (by omega)
    rw [decide_eq_false (fun h => h0 ((emp_iff s).mp h)), bif_false rfl, gd_pos (by omega), gd_pos hb, Option.bind_some, if_neg h0]
    by_cases hv : vg (gt a (i : Int)).kids_ (bt s 0) = 0
    ·rw [if_pos hv, hv]
     rfl
    ·rw [if_neg hv, bif_false (by simpa using hv), gd_pos (by omega), gd_pos hb, gd_pos (by omega)]
  ·rw [bif_false (c := (gt a (i : Int)).kind_ == 3) (by simpa using k3), if_neg k3]
/-- Children stand behind their nodes. -/
def Dn (a : List Node) : Prop := ∀ i : Nat, i < a.length → ∀ c : Nat, c < 16 → vg (gt a (i : Int)).kids_ (c : Int) = 0 ∨ ∃ k : Nat, vg (gt a (i : Int)).kids_ (c : Int) = (k : Int) ∧ i < k ∧ k < a.length
theorem stp_rg {a : List Node} (hd : Dn a) {s : ByteArray} (hs : Sml s) {i : Nat} (hi : i < a.length) : (stp a s i).1 = 0 ∨ ∃ k : Nat, (stp a s i).1 = (k : Int) ∧ i < k ∧ k < a.length := by
 unfold stp
 split
 ·split
  ·exact hd i hi 0 (by omega)
  ·exact .inl rfl
 ·split
  ·split
   ·exact .inl rfl
   ·rename_i h0
    have hb := bt_sml hs (by omega)
    split
    ·exact .inl rfl
    ·have := hd i hi (bt s 0).toNat (by omega)
     rw [Int.toNat_of_nonneg hb.1] at this
     exact this
  ·exact .inl rfl
theorem stp_sml (a : List Node) {s : ByteArray} (hs : Sml s) (i : Int) : Sml (stp a s i).2 ∧ (stp a s i).2.size ≤ s.size := by
 unfold stp
 repeat' split
 all_goals first | exact ⟨hs, Nat.le_refl _⟩ | exact ⟨sml_sub hs _ _, sub_le _ _ _⟩
/-- The way of a key, from a node. -/
def wk (a : List Node) : Nat → ByteArray → Int → List Int
 | 0, _, _ => []
 | n + 1, s, i => i :: (if (stp a s i).1 = 0 then [] else wk a n (stp a s i).2 (stp a s i).1)
theorem wk_len (a : List Node) : ∀ (n : Nat) (s : ByteArray) (i : Int), (wk a n s i).length ≤ n
 | 0, _, _ => Nat.le_refl _
 | n + 1, s, i => by
  rw [wk]
  split
  ·simp
  ·have := wk_len a n (stp a s i).2 (stp a s i).1
   simp only [List.length_cons]
   omega
theorem wk_rg {a : List Node} (hd : Dn a) : ∀ (n : Nat) (s : ByteArray) (i : Nat), Sml s → i < a.length → ∀ x ∈ wk a n s i, ∃ k : Nat, x = (k : Int) ∧ k < a.length
 | 0, _, _, _, _, x, h => by rw [wk] at h; cases h
 | n + 1, s, i, hs, hi, x, h => by
  rw [wk] at h
  rcases List.mem_cons.mp h with rfl | h
  ·exact ⟨i, rfl, hi⟩
  ·rcases stp_rg hd hs hi with h0 | ⟨k, h1, h2, h3⟩
   ·rw [if_pos h0] at h
    cases h
   ·rw [h1, if_neg (by omega)] at h
    exact wk_rg hd n _ k (stp_sml a hs i).1 h3 x h
theorem gone_l0 {a : List Node} (hd : Dn a) (ha : a.length < 1000000) : ∀ (n fuel i : Nat) (s : ByteArray) (acc : List Int), a.length - i ≤ n → n < fuel → i < a.length → Sml s → acc.length ≤ i → ∃ s', get_gone.l0 a fuel (acc ++ [(i : Int)], (stp a s i).2, (stp a s i).1) = some (acc ++ wk a n s i, s')
 | 0, fuel, i, s, acc, h1, _, h3, _, _ => by omega
 | n + 1, 0, i, s, acc, _, h, _, _, _ => by omega
 | n + 1, fuel + 1, i, s, acc, h1, h2, h3, h4, h5 => by
  rw [get_gone.l0, wk]
  rcases stp_rg hd h4 h3 with h0 | ⟨k, e1, e2, e3⟩
  ·rw [h0, bif_false (c := (0 : Int) != 0) rfl, if_pos rfl]
   exact ⟨_, rfl⟩
  ·have hk : ((k : Int) != 0) = true := by simp; omega
   rw [e1, hk, bif_true rfl, gd_pos (by simp; omega), next_ok e3 (stp_sml a h4 i).1 (by simp; omega), if_neg (by omega)]
   obtain ⟨s', h⟩ := gone_l0 hd ha n fuel k (stp a s i).2 (acc ++ [(i : Int)]) (by omega) (by omega) e3 (stp_sml a h4 i).1 (by simp; omega)
   refine ⟨s', ?_⟩
   rw [Option.bind_some]
   show get_gone.l0 a fuel (acc ++ [(i : Int)] ++ [(k : Int)], (stp a (stp a s i).2 k).2, (stp a (stp a s i).2 k).1) = _
   rw [h, List.append_assoc]
   rfl
theorem step2_ok {a : List Node} {s : ByteArray} (hs : Sml s) (hz : s.size < 1000000) {i : Nat} (hi : i < a.length) : ∃ x y, (
     (
       bif ((gt a (i : Int)).kind_) == 2 then
        (ref02_Common.f s ((gt a (i : Int)).path_)).bind fun y737 =>
        some (y737 == (((gt a (i : Int)).path_).size : Int))
       else
        some false).bind fun y732 =>
     bif y732 then
      gd (0 ≤ (((gt a (i : Int)).path_).size : Int) ∧ (((gt a (i : Int)).path_).size : Int) ≤ (s.size : Int)) <|
      gd (0 ≤ (0 : Int) ∧ (0 : Int) < 16) <|
      some (vg ((gt a (i : Int)).kids_) 0, sub s (((gt a (i : Int)).path_).size : Int) (s.size : Int))
     else
      (
        bif ((gt a (i : Int)).kind_) == 3 then
         some (decide ((s.size : Int) > 0))
        else
         some false).bind fun y748 =>
      bif y748 then
       gd (0 ≤ (0 : Int) ∧ (0 : Int) < (s.size : Int)) <|
       gd (0 ≤ bt s 0 ∧ bt s 0 < 16) <|
       gd (0 ≤ (1 : Int) ∧ (1 : Int) ≤ (s.size : Int)) <|
       some (vg ((gt a (i : Int)).kids_) (bt s 0), sub s 1 (s.size : Int))
      else
       some ((0 : Int), s)) = some (x, y) ∧ x = (stp a s i).1 ∧ (x ≠ 0 → y = (stp a s i).2) := by
 unfold stp
 by_cases k2 : (gt a (i : Int)).kind_ = 2
 ·have k3 : ¬ (gt a (i : Int)).kind_ = 3 := by omega
  rw [bif_true (c := (gt a (i : Int)).kind_ == 2) (by simpa using k2), common2_ok hz, if_pos k2]
  simp only [Option.bind_some]
  have hc := comm_iff (B s) (B (gt a (i : Int)).path_)
  rw [B_len] at hc
  by_cases h : (B s).take (gt a (i : Int)).path_.size = B (gt a (i : Int)).path_
  ·have h2 : (gt a (i : Int)).path_.size ≤ s.size := by
    have := congrArg List.length h
    rw [List.length_take, B_len, B_len] at this
    omega
   rw [hc.mpr h, bif_true (c := (((gt a (i : Int)).path_.size : Nat) : Int) == _) (by simp), gd_pos (by omega), gd_pos (by omega), if_pos h]
   exact ⟨_, _, rfl, rfl, fun _ => rfl⟩
  ·have hne : (((comm (B s) (B (gt a (i : Int)).path_) : Nat) : Int) == ((gt a (i : Int)).path_.size : Int)) = false := by
    rw [beq_eq_false_iff_ne]
    intro e
    exact h (hc.mp (by omega))
   rw [hne, bif_false rfl, bif_false (c := (gt a (i : Int)).kind_ == 3) (by simpa using k3), Option.bind_some, bif_false rfl, if_neg h]
   exact ⟨_, _, rfl, rfl, fun _ => rfl⟩
 ·rw [bif_false (c := (gt a (i : Int)).kind_ == 2) (by simpa using k2), if_neg k2, Option.bind_some, bif_false rfl]
  by_cases k3 : (gt a (i : Int)).kind_ = 3
  ·rw [bif_true (c := (gt a (i : Int)).kind_ == 3) (by simpa using k3), if_pos k3, Option.bind_some]
   by_cases h0 : s.size = 0
   ·rw [bif_false (decide_eq_false (by omega)), if_pos h0]
    exact ⟨_, _, rfl, rfl, fun _ => rfl⟩
   ·have hb := bt_sml hs (by omega)
    rw [bif_true (decide_eq_true (by omega)), gd_pos (by omega), gd_pos hb, gd_pos (by omega), if_neg h0]
    by_cases hv : vg (gt a (i : Int)).kids_ (bt s 0) = 0
    ·rw [if_pos hv, hv]
     exact ⟨_, _, rfl, rfl, fun h => absurd rfl h⟩
    ·rw [if_neg hv]
     exact ⟨_, _, rfl, rfl, fun _ => rfl⟩
  ·rw [bif_false (c := (gt a (i : Int)).kind_ == 3) (by simpa using k3), if_neg k3, Option.bind_some, bif_false rfl]
   exact ⟨_, _, rfl, rfl, fun _ => rfl⟩
theorem walk2_l0 {a : List Node} (hd : Dn a) (ha : a.length < 1000000) : ∀ (n fuel i : Nat) (s : ByteArray) (acc : List Int), a.length - i ≤ n → n < fuel → i < a.length → Sml s → s.size < 1000000 → acc.length ≤ i → ref12_Walk.l0 a fuel (acc, s, (i : Int)) = some (acc ++ wk a n s i)
 | 0, fuel, i, s, acc, h1, _, h3, _, _, _ => by omega
 | n + 1, 0, i, s, acc, _, h, _, _, _, _ => by omega
 | n + 1, fuel + 1, i, s, acc, h1, h2, h3, h4, hz, h5 => by
  rw [ref12_Walk.l0, wk]
  obtain ⟨x, y, g1, g2, g3⟩ := step2_ok h4 hz h3
  rw [bif_true (decide_eq_true (by omega)), gd_pos (by omega), gd_pos (by omega), g1]
  simp only [Option.bind_some]
  rcases stp_rg hd h4 h3 with h0 | ⟨k, e1, e2, e3⟩
  ·rw [g2, h0, bif_true (c := (0 : Int) == 0) rfl, if_pos rfl]
  ·have hk : ((k : Int) == 0) = false := by rw [beq_eq_false_iff_ne]; omega
   rw [g3 (by omega), g2, e1, hk, bif_false rfl, if_neg (by omega)]
   obtain ⟨m1, m2⟩ := stp_sml a h4 (i : Int)
   rw [walk2_l0 hd ha n fuel k _ _ (by omega) (by omega) e3 m1 (by omega) (by simp; omega), List.append_assoc]
   rfl
theorem at_rg : ∀ (n m : Nat) (ks : Ks) (bk : Nat) (v : V16), 16 - m = n → ks.at bk v m → ∀ c : Nat, m ≤ c → c < 16 → vg v (c : Int) = 0 ∨ ∃ k : Nat, vg v (c : Int) = (k : Int) ∧ bk ≤ k ∧ k < bk + ks.sz
 | 0, m, ks, bk, v, hn, _, c, h1, h2 => by omega
 | n + 1, m, ks, bk, v, hn, hat, c, h1, h2 => by
  rcases Ks.at_step hat (by omega) with ⟨h0, hat'⟩ | ⟨t, r, rfl, h0, hat'⟩
  ·rcases Nat.eq_or_lt_of_le h1 with rfl | h1
   ·exact .inl h0
   ·exact at_rg n (m + 1) ks bk v (by omega) hat' c h1 h2
  ·have hpos := T.sz_pos t
   have hsz : (Ks.cons m t r).sz = t.sz + r.sz := rfl
   rcases Nat.eq_or_lt_of_le h1 with rfl | h1
   ·exact .inr ⟨bk, h0, Nat.le_refl _, by omega⟩
   ·rcases at_rg n (m + 1) r _ v (by omega) hat' c h1 h2 with h | ⟨k, g1, g2, g3⟩
    ·exact .inl h
    ·exact .inr ⟨k, g1, by omega, by omega⟩
theorem dn_tri {l : List Pair} (hm : MayP l) (hl : l.length < 1000000) (h0 : 0 < l.length) : Dn (tri l) := by
 intro i hi c hc
 obtain ⟨u, u1, u2⟩ := tre_pos hm hl h0 hi
 obtain ⟨lab, ks⟩ := u
 obtain ⟨p1, p2, p3⟩ := u2
 have hat : ks.at (i + 1) (gt (tri l) (i : Int)).kids_ 0 := by rw [p1.get]; exact Ks.at_vec0 p3.2.1
 have hlt := p1.lt
 have hsz : (T.node lab ks).sz = ks.sz + 1 := rfl
 rcases at_rg 16 0 ks (i + 1) _ (by omega) hat c (by omega) hc with h | ⟨k, g1, g2, g3⟩
 ·exact .inl h
 ·exact .inr ⟨k, g1, by omega, by omega⟩
/-- The way of a key in the trie of pairs. -/
def wkl (l : List Pair) (k : ByteArray) : List Int := if l = [] then [] else wk (tri l) (tri l).length (nib k) 0
theorem wkl_rg {l : List Pair} (hm : MayP l) (hl : l.length < 10000) (k : ByteArray) : (wkl l k).length ≤ (tri l).length ∧ ∀ x ∈ wkl l k, ∃ i : Nat, x = (i : Int) ∧ i < (tri l).length := by
 unfold wkl
 by_cases he : l = []
 ·rw [if_pos he]
  exact ⟨Nat.zero_le _, fun x h => by cases h⟩
 ·have h0 : 0 < l.length := List.length_pos_iff.mpr he
  have htl := tri_len (l := l) h0
  have hpos := T.sz_pos (tre l)
  rw [if_neg he]
  exact ⟨wk_len _ _ _ _, wk_rg (dn_tri hm (by omega) h0) _ _ 0 (sml_nib k) (by omega)⟩
theorem nib_size (k : ByteArray) : (nib k).size = 2 * k.size := by rw [← B_len, B_nib, nbl_len, B_len]
theorem walk_ok {l : List Pair} (hm : MayP l) (hl : l.length < 10000) {k : ByteArray} (hk : 1 ≤ k.size ∧ k.size ≤ 8) : get_Walk.f (tri l) k = some (wkl l k, 0) := by
 unfold get_Walk.f get_gone.f wkl
 rw [good_ok hm hl, Option.bind_some, bif_false (c := !true) rfl, seq_B, decide_eq_false (fun h => by have := (emp_iff k).mp h; omega), bif_false rfl, Option.bind_some, bif_false (decide_eq_false (by omega)), of_ok (by omega), Option.bind_some]
 by_cases he : l = []
 ·subst he
  rw [if_pos rfl]
  rfl
 ·have h0 : 0 < l.length := List.length_pos_iff.mpr he
  have htl := tri_len (l := l) h0
  have hsz := tre_sz (l := l) (by omega) h0
  have hpos := T.sz_pos (tre l)
  have hb : (((tri l).length : Int) == 0) = false := by rw [beq_eq_false_iff_ne]; omega
  have hn := next_ok (a := tri l) (acc := []) (i := 0) (by omega) (sml_nib k) (by simp)
  rw [show ([] ++ [((0 : Nat) : Int)]) = [(0 : Int)] from rfl] at hn
  obtain ⟨s', h⟩ := gone_l0 (dn_tri hm (by omega) h0) (by omega) (tri l).length BIG 0 (nib k) [] (by omega) (by have := BIG_ge; omega) (by omega) (sml_nib k) (by simp)
  rw [hb, bif_false rfl, hn, if_neg he, Option.bind_some]
  have h' : get_gone.l0 (tri l) BIG ([0], (stp (tri l) (nib k) ((0 : Nat) : Int)).2, (stp (tri l) (nib k) ((0 : Nat) : Int)).1) = some (wk (tri l) (tri l).length (nib k) 0, s') := h
  show (((get_gone.l0 (tri l) BIG ([0], (stp (tri l) (nib k) ((0 : Nat) : Int)).2, (stp (tri l) (nib k) ((0 : Nat) : Int)).1)).bind _).bind _) = _
  rw [h']
  rfl
theorem key12_ok (k : ByteArray) : ref12_Key.f k = some (decide (1 ≤ k.size ∧ k.size ≤ 8)) := by
 unfold ref12_Key.f
 by_cases h : 1 ≤ k.size
 ·rw [bif_true (decide_eq_true (by omega)), Option.bind_some]
  congr 1
  rw [decide_eq_decide]
  omega
 ·rw [bif_false (decide_eq_false (by omega)), Option.bind_some, decide_eq_false (by omega)]
theorem walk2_ok {l : List Pair} (hm : MayP l) (hl : l.length < 10000) {k : ByteArray} (hk : 1 ≤ k.size ∧ k.size ≤ 8) : ref12_Walk.f (tri l) k = some (wkl l k, 0) := by
 unfold ref12_Walk.f wkl
 rw [rgood_ok hm hl, Option.bind_some, bif_false (c := !true) rfl, key12_ok, decide_eq_true hk, Option.bind_some, bif_false (c := !true) rfl, of2_ok (by omega), Option.bind_some]
 by_cases he : l = []
 ·subst he
  obtain ⟨B, hB⟩ : ∃ B, BIG = B + 1 := ⟨BIG - 1, by have := BIG_ge; omega⟩
  rw [if_pos rfl, hB, ref12_Walk.l0, bif_false (decide_eq_false (by decide))]
  rfl
 ·have h0 : 0 < l.length := List.length_pos_iff.mpr he
  have htl := tri_len (l := l) h0
  have hsz := tre_sz (l := l) (by omega) h0
  have hpos := T.sz_pos (tre l)
  have hn := nib_size k
  have h := walk2_l0 (dn_tri hm (by omega) h0) (by omega) (tri l).length BIG 0 (nib k) [] (by omega) (by have := BIG_ge; omega) (by omega) (sml_nib k) (by omega) (by simp)
  rw [show ((0 : Nat) : Int) = 0 from rfl] at h
  rw [h, if_neg he]
  rfl
/-- The text of a node of the trie of pairs. -/
noncomputable def etx (l : List Pair) (i : Int) : ByteArray := match (tre l).trs[i.toNat]? with
 | some u => enc u.item
 | none => ⟨#[]⟩
theorem prove_l0 {l : List Pair} (hm : MayP l) (hl : l.length < 10000) {W : List Int} (hW : ∀ x ∈ W, ∃ i : Nat, x = (i : Int) ∧ i < (tri l).length) (hlen : W.length < 1000000) : ∀ (fuel j : Nat) (acc : List ByteArray), W.length - j < fuel → acc.length = j → prove_Of.l0 (tri l) W fuel (acc, (j : Int)) = some (acc ++ (W.drop j).map (etx l))
 | 0, j, acc, h, _ => by omega
 | fuel + 1, j, acc, h, hj => by
  rw [prove_Of.l0]
  rcases Nat.lt_or_ge j W.length with hlt | hge
  ·have hg : gt W (j : Int) ∈ W := by
    rw [gt_nat, List.getD_eq_getElem?_getD, List.getElem?_eq_getElem hlt, Option.getD_some]
    exact List.getElem_mem _
   obtain ⟨i, e1, e2⟩ := hW _ hg
   have h0 : 0 < l.length := by
    rcases Nat.eq_zero_or_pos l.length with h | h
    ·have : l = [] := List.length_eq_zero_iff.mp h
     subst this
     exact absurd e2 (by simp [tri])
    ·exact h
   obtain ⟨u, u1, u2, u3⟩ := rItem_ok hm hl h0 e2
   rw [bif_true (decide_eq_true (by omega)), gd_pos (by omega), e1, u3]
   simp only [Option.bind_some]
   rw [encode_ok (T.item_fit u2.2.2)]
   simp only [Option.bind_some]
   rw [gd_pos (by omega), w64_nat (x := (j : Int) + 1) (k := j + 1) (by simp) (by omega), prove_l0 hm hl hW hlen fuel (j + 1) _ (by omega) (by simp; omega), drop_cons default hlt, List.map_cons]
   have : etx l (W.getD j default) = enc u.item := by
    rw [← gt_nat, e1]
    unfold etx
    rw [Int.toNat_natCast, u1]
   rw [this, List.append_assoc]
   rfl
  ·rw [bif_false (decide_eq_false (by omega)), List.drop_eq_nil_of_le hge]
   simp
theorem prove_ok {l : List Pair} (hm : MayP l) (hl : l.length < 10000) {k : ByteArray} (hk : 1 ≤ k.size ∧ k.size ≤ 8) : prove_Of.f (tri l) k = some ((wkl l k).map (etx l), 0) := by
 unfold prove_Of.f
 obtain ⟨r1, r2⟩ := wkl_rg hm hl k
 have hlen : (tri l).length < 1000000 := by
  by_cases he : l = []
  ·subst he
   simp [tri]
  ·have h0 : 0 < l.length := List.length_pos_iff.mpr he
   have htl := tri_len (l := l) h0
   have hsz := tre_sz (l := l) (by omega) h0
   omega
 rw [walk_ok hm hl hk]
 simp only [Option.bind_some]
 have h := prove_l0 hm hl r2 (by omega) BIG 0 [] (by have := BIG_ge; omega) rfl
 rw [show ((0 : Nat) : Int) = 0 from rfl, List.drop_zero, List.nil_append] at h
 rw [bif_false (c := (0 : Int) != 0) rfl, h]
 rfl
end Go.Lf
/- Lists of texts by numbers; a trie is short. -/
set_option linter.unusedVariables false
set_option linter.unusedSimpArgs false
namespace Go.Lf
open Go
theorem gt_map {e : Int → ByteArray} {W : List Int} {i : Nat} (h : i < W.length) : gt (W.map e) (i : Int) = e (gt W (i : Int)) := by
 rw [gt_nat, gt_nat, List.getD_eq_getElem?_getD, List.getElem?_map, List.getElem?_eq_getElem h, List.getD_eq_getElem?_getD, List.getElem?_eq_getElem h]
 rfl
theorem tri_short {l : List Pair} (hl : l.length < 10000) : (tri l).length < 1000000 := by
 by_cases he : l = []
 ·subst he
  simp [tri]
 ·have h0 : 0 < l.length := List.length_pos_iff.mpr he
  have htl := tri_len (l := l) h0
  have hsz := tre_sz (l := l) (by omega) h0
  omega
end Go.Lf
