/- Nodes that a trie may have; how a tree lies in a list; each place's tree. -/
import Derived.Test.YtckhmgglgbnaaaaDoorM31
set_option linter.unusedVariables false
set_option linter.unusedSimpArgs false
namespace Go.Lf
open Go
def Ks.cnt : Ks → Nat
  | .nil => 0
  | .cons _ _ ks => ks.cnt + 1
def Lab.good (l : Lab) : Prop := l.path.size ≤ 16 ∧ Sml l.path ∧ l.value.size ≤ 16
mutual
/-- A tree that a trie may have. -/
def T.fit : T → Prop
  | .node l ks => l.good ∧ ks.up 0 ∧ (l.has = false → l.value = ⟨#[]⟩) ∧ ((l.kind = 1 ∧ l.has = true ∧ ks = .nil) ∨ (l.kind = 2 ∧ l.has = false ∧ 0 < l.path.size ∧ ∃ t, ks = .cons 0 t .nil) ∨ (l.kind = 3 ∧ l.path = ⟨#[]⟩ ∧ (2 ≤ ks.cnt ∨ l.has = true ∧ 1 ≤ ks.cnt))) ∧ ks.fit
def Ks.fit : Ks → Prop
  | .nil => True
  | .cons _ t ks => t.fit ∧ ks.fit
end
section
variable {n : List ByteArray} {l : List Pair}
theorem sml_sub {s : ByteArray} (h : Sml s) (i j : Int) : Sml (sub s i j) := by
  intro b hb
  rw [B_sub] at hb
  exact h b (List.mem_of_mem_take (List.mem_of_mem_drop hb))
theorem sub_le (s : ByteArray) (i j : Int) : (sub s i j).size ≤ s.size := by
  rw [← B_len, B_sub, List.length_drop, List.length_take, B_len]
  omega
theorem sml_nil : Sml (⟨#[]⟩ : ByteArray) := by
  intro b hb
  rw [B_empty] at hb
  cases hb
theorem nil16 : (⟨#[]⟩ : ByteArray).size ≤ 16 := by decide
theorem mkKs_fit (hI : In n l) {f t d : Nat} (hR : Rg n f t d) {g : Nat → Nat → T} (hg : ∀ i j, Rg n i j (d + 1) → (g i j).fit) : ∀ m i, (f < i ∨ d < (nb n f).length ∧ f ≤ i) → (mkKs n g d t m i).fit
  | 0, i, _ => trivial
  | m + 1, i, hi => by
    unfold mkKs
    split
    · rename_i h
      have hgt := run_gt (n := n) (d := d) h
      exact ⟨hg _ _ (hR.run hI.srt hi h), mkKs_fit hI hR hg m _ (by omega)⟩
    · trivial
theorem mkKs_one {g : Nat → Nat → T} {d t m i : Nat} (hm : 0 < m) (hi : i < t) : 1 ≤ (mkKs n g d t m i).cnt := by
  obtain ⟨m, rfl⟩ : ∃ m', m = m' + 1 := ⟨m - 1, by omega⟩
  unfold mkKs
  rw [if_pos hi, Ks.cnt]
  omega
theorem mkKs_two {g : Nat → Nat → T} {d t m i : Nat} (hm : 1 < m) (hi : i < t) (hr : run n d t i < t) : 2 ≤ (mkKs n g d t m i).cnt := by
  obtain ⟨m, rfl⟩ : ∃ m', m = m' + 1 := ⟨m - 1, by omega⟩
  unfold mkKs
  rw [if_pos hi, Ks.cnt]
  have := mkKs_one (n := n) (g := g) (d := d) (m := m) (by omega) hr
  omega
theorem comm_pos {x y : List Nat} (hx : 0 < x.length) (hy : 0 < y.length) (h : x.getD 0 0 = y.getD 0 0) : 0 < comm x y := by
  cases x with
  | nil => simp at hx
  | cons a x =>
    cases y with
    | nil => simp at hy
    | cons b y =>
      simp only [List.getD_cons_zero] at h
      unfold comm
      rw [if_pos h]
      omega
theorem mk_fit (hI : In n l) (hE : Evn n) (hv : ∀ i, i < n.length → (val l i).size ≤ 16) : ∀ (k f t d : Nat), Rg n f t d → 17 ≤ d + k → (mk n l k f t d).fit
  | 0, f, t, d, hR, hd => by
    have := hI.short f (by have := hR.lt; have := hR.le; omega)
    have := hR.long f (Nat.le_refl _) hR.lt
    omega
  | k + 1, f, t, d, hR, hd => by
    have hlt := hR.lt
    have hle := hR.le
    have hsh := hI.short f (by omega)
    have hsz : (tx n f).size ≤ 16 := by rw [size_nb]; exact hsh
    have hlt16 : ∀ i, i < t → byteAt n i d < 16 := fun i hi => hI.nib i (by omega) d
    obtain ⟨-, hsm⟩ := hE f (by omega)
    rw [mk]
    by_cases h1 : t = f + 1
    · rw [if_pos h1]
      exact ⟨⟨Nat.le_trans (sub_le _ _ _) hsz, sml_sub hsm _ _, hv f (by omega)⟩, trivial, fun h => by simp at h, .inl ⟨rfl, rfl, rfl⟩, trivial⟩
    · rw [if_neg h1]
      by_cases h2 : 0 < comm ((nb n f).drop d) ((nb n (t - 1)).drop d)
      · rw [if_pos h2]
        have hcl := comm_le_left ((nb n f).drop d) ((nb n (t - 1)).drop d)
        rw [List.length_drop] at hcl
        have hpos : 0 < (sub (tx n f) (d : Int) ((d + comm ((nb n f).drop d) ((nb n (t - 1)).drop d) : Nat) : Int)).size := by
          have e := size_nb n f
          rw [← B_len, B_sub, List.length_drop, List.length_take, B_len]
          omega
        refine ⟨⟨Nat.le_trans (sub_le _ _ _) hsz, sml_sub hsm _ _, nil16⟩, ⟨by omega, by omega, trivial⟩, fun _ => rfl, .inr (.inl ⟨rfl, rfl, hpos, _, rfl⟩), mk_fit hI hE hv k f t _ (hR.comm hI.srt) (by omega), trivial⟩
      · rw [if_neg h2]
        have hg : ∀ i j, Rg n i j (d + 1) → (mk n l k i j (d + 1)).fit := fun i j h => mk_fit hI hE hv k i j (d + 1) h (by omega)
        by_cases h3 : (nb n f).length = d
        · rw [if_pos h3]
          refine ⟨⟨nil16, sml_nil, hv f (by omega)⟩, mkKs_up hI.srt hR _ hlt16 _ _ (by omega) _ (fun _ => Nat.zero_le _), fun h => by simp at h, .inr (.inr ⟨rfl, rfl, .inr ⟨rfl, mkKs_one (by omega) (by omega)⟩⟩), mkKs_fit hI hR hg _ _ (by omega)⟩
        · rw [if_neg h3]
          have hlong := hR.long f (Nat.le_refl _) hlt
          have hlong2 := hR.long (t - 1) (by omega) (by omega)
          have hgo := hR.go hI.srt (i := t - 1) (.inl (by omega)) (by omega)
          have hrun : run n d t f < t := by
            rcases Nat.lt_or_ge (run n d t f) t with h | h
            · exact h
            · have hall := runF_all (fun j => byteAt n j d == byteAt n f d) (t - f) f (t - 1) (by omega) (by unfold run at h; omega)
              have hb : byteAt n (t - 1) d = byteAt n f d := by simpa using hall
              exfalso
              apply h2
              apply comm_pos
              · rw [List.length_drop]; omega
              · rw [List.length_drop]; omega
              · unfold byteAt at hb
                simp only [List.getD_eq_getElem?_getD, List.getElem?_drop, Nat.add_zero] at hb ⊢
                exact hb.symm
          refine ⟨⟨nil16, sml_nil, nil16⟩, mkKs_up hI.srt hR _ hlt16 _ _ (by omega) _ (fun _ => Nat.zero_le _), fun _ => rfl, .inr (.inr ⟨rfl, rfl, .inl (mkKs_two (by omega) hlt hrun)⟩), mkKs_fit hI hR hg _ _ (by omega)⟩
theorem tre_fit (hm : MayP l) (hl : l.length < 1000000) (h0 : 0 < l.length) : (tre l).fit := by
  have hlen : (nibs l).length = l.length := by simp [nibs]
  exact mk_fit (in_nibs hm hl) evn_nibs (fun i hi => (hm i (by omega)).2.2.1) 17 0 l.length 0 (rg0 hm h0) (by omega)
end
/-- A tree stands in a list of nodes at a place. -/
def Lies (a : List Node) (b : Nat) (t : T) : Prop := ∃ pre post, a = pre ++ (t.flat b ++ post) ∧ pre.length = b
theorem Lies.get {a : List Node} {b : Nat} {l : Lab} {ks : Ks} (h : Lies a b (.node l ks)) : gt a (b : Int) = l.node (ks.vec (b + 1) v0) := by
  obtain ⟨pre, post, rfl, rfl⟩ := h
  rw [T.flat, List.cons_append]
  exact gt_end _ _ _
theorem Lies.lt {a : List Node} {b : Nat} {t : T} (h : Lies a b t) : b + t.sz ≤ a.length := by
  obtain ⟨pre, post, rfl, rfl⟩ := h
  simp [T.flat_len]
mutual
/-- All trees beneath, in preorder. -/
def T.trs : T → List T
  | .node l ks => .node l ks :: ks.trs
def Ks.trs : Ks → List T
  | .nil => []
  | .cons _ t ks => t.trs ++ ks.trs
end
mutual
theorem T.trs_len : ∀ t : T, t.trs.length = t.sz
  | .node l ks => by simp [T.trs, T.sz, Ks.trs_len ks]
theorem Ks.trs_len : ∀ ks : Ks, ks.trs.length = ks.sz
  | .nil => rfl
  | .cons _ t ks => by simp [Ks.trs, Ks.sz, T.trs_len t, Ks.trs_len ks]
end
def LiesT (L : List T) (b : Nat) (t : T) : Prop := ∃ pre post, L = pre ++ (t.trs ++ post) ∧ pre.length = b
theorem LiesT.get {L : List T} {b : Nat} {t : T} (h : LiesT L b t) : L[b]? = some t := by
  obtain ⟨pre, post, rfl, rfl⟩ := h
  obtain ⟨l, ks⟩ := t
  simp [T.trs]
def Ks.all (R : T → Nat → Prop) : Ks → Nat → Prop
  | .nil, _ => True
  | .cons _ t ks, b => R t b ∧ ks.all R (b + t.sz)
theorem Ks.all_mono {R S : T → Nat → Prop} : ∀ {ks : Ks} {b : Nat}, (∀ t i, b ≤ i → R t i → S t i) → ks.all R b → ks.all S b
  | .nil, b, _, _ => trivial
  | .cons c t ks, b, h, ⟨h1, h2⟩ => ⟨h _ _ (Nat.le_refl _) h1, Ks.all_mono (fun t i hi hr => h t i (by omega) hr) h2⟩
theorem Ks.all_lies {a : List Node} : ∀ (ks : Ks) (b : Nat) (pre post : List Node), a = pre ++ (ks.flat b ++ post) → pre.length = b → ks.all (fun t i => Lies a i t) b
  | .nil, b, _, _, _, _ => trivial
  | .cons c t ks, b, pre, post, h, hb => by
    rw [Ks.flat] at h
    refine ⟨⟨pre, ks.flat (b + t.sz) ++ post, by rw [h]; simp, hb⟩, Ks.all_lies ks (b + t.sz) (pre ++ t.flat b) post (by rw [h]; simp) (by simp [hb, T.flat_len])⟩
theorem Ks.all_liesT {L : List T} : ∀ (ks : Ks) (b : Nat) (pre post : List T), L = pre ++ (ks.trs ++ post) → pre.length = b → ks.all (fun t i => LiesT L i t) b
  | .nil, b, _, _, _, _ => trivial
  | .cons c t ks, b, pre, post, h, hb => by
    rw [Ks.trs] at h
    refine ⟨⟨pre, ks.trs ++ post, by rw [h]; simp, hb⟩, Ks.all_liesT ks (b + t.sz) (pre ++ t.trs) post (by rw [h]; simp) (by simp [hb, T.trs_len])⟩
theorem Lies.kids {a : List Node} {b : Nat} {l : Lab} {ks : Ks} (h : Lies a b (.node l ks)) : ks.all (fun t i => Lies a i t) (b + 1) := by
  obtain ⟨pre, post, rfl, rfl⟩ := h
  rw [T.flat]
  exact Ks.all_lies ks _ (pre ++ [l.node (ks.vec (pre.length + 1) v0)]) post (by simp) (by simp)
theorem LiesT.kids {L : List T} {b : Nat} {l : Lab} {ks : Ks} (h : LiesT L b (.node l ks)) : ks.all (fun t i => LiesT L i t) (b + 1) := by
  obtain ⟨pre, post, rfl, rfl⟩ := h
  rw [T.trs]
  exact Ks.all_liesT ks _ (pre ++ [.node l ks]) post (by simp) (by simp)
/-- What stands at a place. -/
def Pos (a : List Node) (L : List T) (i : Nat) (u : T) : Prop := Lies a i u ∧ LiesT L i u ∧ u.fit
mutual
theorem T.pos {a : List Node} {L : List T} : ∀ (t : T) (b i : Nat), Pos a L b t → i < t.sz → ∃ u, t.trs[i]? = some u ∧ Pos a L (b + i) u
  | .node l ks, b, 0, h, _ => ⟨_, rfl, h⟩
  | .node l ks, b, i + 1, h, hi => by
    obtain ⟨u, h1, h2⟩ := Ks.pos ks (b + 1) i h.1.kids h.2.1.kids h.2.2.2.2.2.2 (by simp only [T.sz] at hi; omega)
    exact ⟨u, by simpa [T.trs] using h1, by rwa [show b + (i + 1) = b + 1 + i by omega]⟩
theorem Ks.pos {a : List Node} {L : List T} : ∀ (ks : Ks) (b i : Nat), ks.all (fun t i => Lies a i t) b → ks.all (fun t i => LiesT L i t) b → ks.fit → i < ks.sz → ∃ u, ks.trs[i]? = some u ∧ Pos a L (b + i) u
  | .nil, b, i, _, _, _, h => by simp [Ks.sz] at h
  | .cons c t ks, b, i, h1, h2, h3, h => by
    have hl := T.trs_len t
    rw [Ks.sz] at h
    rcases Nat.lt_or_ge i t.sz with hi | hi
    · obtain ⟨u, g1, g2⟩ := T.pos t b i ⟨h1.1, h2.1, h3.1⟩ hi
      exact ⟨u, by rw [Ks.trs, List.getElem?_append_left (by omega)]; exact g1, g2⟩
    · obtain ⟨u, g1, g2⟩ := Ks.pos ks (b + t.sz) (i - t.sz) h1.2 h2.2 h3.2 (by omega)
      exact ⟨u, by rw [Ks.trs, List.getElem?_append_right (by omega), hl]; exact g1, by rwa [show b + i = b + t.sz + (i - t.sz) by omega]⟩
end
theorem tre_pos {l : List Pair} (hm : MayP l) (hl : l.length < 1000000) (h0 : 0 < l.length) {i : Nat} (hi : i < (tri l).length) : ∃ u, (tre l).trs[i]? = some u ∧ Pos (tri l) (tre l).trs i u := by
  have he : l ≠ [] := List.length_pos_iff.mp h0
  rw [tri_len h0] at hi
  have h := T.pos (a := tri l) (L := (tre l).trs) (tre l) 0 i ⟨⟨[], [], by rw [tri, if_neg he]; simp, rfl⟩, ⟨[], [], by simp, rfl⟩, tre_fit hm hl h0⟩ hi
  simpa using h
end Go.Lf
