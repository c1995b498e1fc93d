/- The sheets of the trie of pairs. -/
import Derived.Test.YtckhmgglgbnaaaaM13
set_option linter.unusedVariables false
set_option linter.unusedSimpArgs false
namespace Go.Lf
open Go
variable {n : List ByteArray} {l : List Pair}
theorem sml_sub {s : ByteArray} (h : Sml s) (i j : Int) : Sml (sub s i j) := by
  intro b hb
  rw [B_sub] at hb
  exact h b (List.mem_of_mem_take (List.mem_of_mem_drop hb))
theorem sub_le (s : ByteArray) (i j : Int) : (sub s i j).size ≤ s.size := by
  rw [← B_len, B_sub, List.length_drop, List.length_take, B_len]
  omega
theorem sml_nil : Sml (⟨#[]⟩ : ByteArray) := by
  intro b hb
  rw [B_empty] at hb
  cases hb
theorem nil16 : (⟨#[]⟩ : ByteArray).size ≤ 16 := by decide
theorem mkKs_ok {g : Nat → Nat → T} {d t : Nat} (hg : ∀ i, i < t → (g i (run n d t i)).ok) : ∀ m i, (mkKs n g d t m i).ok
  | 0, i => trivial
  | m + 1, i => by
    unfold mkKs
    split
    · rename_i h
      exact ⟨hg i h, mkKs_ok hg m _⟩
    · trivial
theorem mkKs_ok' (hI : In n l) {f t d : Nat} (hR : Rg n f t d) {g : Nat → Nat → T} (hg : ∀ i j, Rg n i j (d + 1) → (g i j).ok) : ∀ m i, (f < i ∨ d < (nb n f).length ∧ f ≤ i) → (mkKs n g d t m i).ok
  | 0, i, _ => trivial
  | m + 1, i, hi => by
    unfold mkKs
    split
    · rename_i h
      have hgt := run_gt (n := n) (d := d) h
      exact ⟨hg _ _ (hR.run hI.srt hi h), mkKs_ok' hI hR hg m _ (by omega)⟩
    · trivial
theorem mk_ok (hI : In n l) (hE : Evn n) (hv : ∀ i, i < n.length → (val l i).size ≤ 16) : ∀ (k f t d : Nat), Rg n f t d → 17 ≤ d + k → (mk n l k f t d).ok
  | 0, f, t, d, hR, hd => by
    have := hI.short f (by have := hR.lt; have := hR.le; omega)
    have := hR.long f (Nat.le_refl _) hR.lt
    omega
  | k + 1, f, t, d, hR, hd => by
    have hlt := hR.lt
    have hle := hR.le
    have hsh := hI.short f (by omega)
    have hsz : (tx n f).size ≤ 16 := by rw [size_nb]; exact hsh
    have hlt16 : ∀ i, i < t → byteAt n i d < 16 := fun i hi => hI.nib i (by omega) d
    obtain ⟨-, hsm⟩ := hE f (by omega)
    rw [mk]
    by_cases h1 : t = f + 1
    · rw [if_pos h1]
      exact ⟨⟨Nat.le_trans (sub_le _ _ _) hsz, sml_sub hsm _ _, hv f (by omega), .inl rfl⟩, trivial, trivial⟩
    · rw [if_neg h1]
      by_cases h2 : 0 < comm ((nb n f).drop d) ((nb n (t - 1)).drop d)
      · rw [if_pos h2]
        refine ⟨⟨Nat.le_trans (sub_le _ _ _) hsz, sml_sub hsm _ _, nil16, .inr (.inl rfl)⟩, ⟨by omega, by omega, trivial⟩, mk_ok hI hE hv k f t _ (hR.comm hI.srt) (by omega), trivial⟩
      · rw [if_neg h2]
        have hg : ∀ i j, Rg n i j (d + 1) → (mk n l k i j (d + 1)).ok := fun i j h => mk_ok hI hE hv k i j (d + 1) h (by omega)
        by_cases h3 : (nb n f).length = d
        · rw [if_pos h3]
          exact ⟨⟨nil16, sml_nil, hv f (by omega), .inr (.inr rfl)⟩, mkKs_up hI.srt hR _ hlt16 _ _ (by omega) _ (fun _ => Nat.zero_le _), mkKs_ok' hI hR hg _ _ (by omega)⟩
        · rw [if_neg h3]
          have := hR.long f (Nat.le_refl _) hlt
          exact ⟨⟨nil16, sml_nil, nil16, .inr (.inr rfl)⟩, mkKs_up hI.srt hR _ hlt16 _ _ (by omega) _ (fun _ => Nat.zero_le _), mkKs_ok' hI hR hg _ _ (by omega)⟩
theorem tre_ok (hm : MayP l) (hl : l.length < 1000000) (h0 : 0 < l.length) : (tre l).ok := by
  have hlen : (nibs l).length = l.length := by simp [nibs]
  exact mk_ok (in_nibs hm hl) evn_nibs (fun i hi => (hm i (by omega)).2.2.1) 17 0 l.length 0 (rg0 hm h0) (by omega)
theorem tre_lies (h0 : 0 < l.length) : Lies (tri l) 0 (tre l) := by
  have he : l ≠ [] := List.length_pos_iff.mp h0
  refine ⟨[], [], ?_, rfl⟩
  rw [tri, if_neg he]
  simp
/-- The sheets of the trie of pairs. -/
def sheets (l : List Pair) : List Plan := if l = [] then [] else shs (trp l) (tre l).sz (tre l) 0 0
theorem trp_len : (trp l).length = (tri l).length := by
  unfold trp tri
  split
  · rfl
  · rw [T.paths_len, T.flat_len]
theorem Of_ok (hm : MayP l) (hl : l.length < 10000) : pack_Of.f (tri l) = some (sheets l, true) := by
  unfold pack_Of.f
  rw [paths_ok hm hl]
  simp only [Option.bind_some]
  rw [bif_false (c := !true) rfl]
  by_cases he : l = []
  · subst he
    rfl
  · have h0 : 0 < l.length := List.length_pos_iff.mpr he
    have hsz := tre_sz (by omega) h0
    have hlen := tri_len h0
    have hpos := T.sz_pos (tre l)
    have h := sheet_ok (a := tri l) (by omega) trp_len (tre l).sz BIG (tre l) 0 [] (tre_lies h0) (tre_ok hm (by omega) h0) (Nat.le_refl _) (by have := BIG_ge; omega) (by simp; omega)
    rw [show ((0 : Nat) : Int) = 0 from rfl] at h
    rw [bif_true (decide_eq_true (by omega)), h]
    simp [sheets, he]
mutual
/-- All nodes' bytes, in preorder. -/
def T.owns : T → List Nat
  | .node l ks => (T.node l ks).own :: ks.owns
def Ks.owns : Ks → List Nat
  | .nil => []
  | .cons _ t ks => t.owns ++ ks.owns
end
mutual
theorem T.owns_len : ∀ t : T, t.owns.length = t.sz ∧ t.owns.sum = t.tot
  | .node l ks => by
    have := Ks.owns_len ks
    simp only [T.owns, T.sz, T.tot, List.length_cons, List.sum_cons]
    omega
theorem Ks.owns_len : ∀ ks : Ks, ks.owns.length = ks.sz ∧ ks.owns.sum = ks.tot
  | .nil => ⟨rfl, rfl⟩
  | .cons c t ks => by
    have h1 := T.owns_len t
    have h2 := Ks.owns_len ks
    simp only [Ks.owns, Ks.sz, Ks.tot, List.length_append, List.sum_append]
    omega
end
mutual
theorem T.owns_at {a : List Node} : ∀ (t : T) (b i : Nat) (w : Nat), Lies a b t → t.ok → t.owns[i]? = some w → pack_size.f (gt a ((b + i : Nat) : Int)) = some (w : Int) ∧ 3 ≤ w ∧ w ≤ 69
  | .node l ks, b, 0, w, hl, ho, h => by
    simp only [T.owns, List.getElem?_cons_zero, Option.some.injEq] at h
    subst h
    exact ⟨size_ok hl ho, T.own_ge _, T.own_le ho⟩
  | .node l ks, b, i + 1, w, hl, ho, h => by
    simp only [T.owns, List.getElem?_cons_succ] at h
    have := Ks.owns_at ks (b + 1) i w hl.kids ho.2.2 h
    rwa [show b + 1 + i = b + (i + 1) by omega] at this
theorem Ks.owns_at {a : List Node} : ∀ (ks : Ks) (b i : Nat) (w : Nat), ks.all (LL a) b → ks.ok → ks.owns[i]? = some w → pack_size.f (gt a ((b + i : Nat) : Int)) = some (w : Int) ∧ 3 ≤ w ∧ w ≤ 69
  | .nil, b, i, w, _, _, h => by simp [Ks.owns] at h
  | .cons c t ks, b, i, w, hl, ho, h => by
    have hln := (T.owns_len t).1
    rw [Ks.owns] at h
    rcases Nat.lt_or_ge i t.sz with hi | hi
    · rw [List.getElem?_append_left (by omega)] at h
      exact T.owns_at t b i w hl.1 ho.1 h
    · rw [List.getElem?_append_right (by omega), hln] at h
      have := Ks.owns_at ks (b + t.sz) (i - t.sz) w hl.2 ho.2 h
      rwa [show b + t.sz + (i - t.sz) = b + i by omega] at this
end
theorem Size_ok (hm : MayP l) (hl : l.length < 10000) {i : Nat} (hi : i < (tri l).length) : pack_Size.f (tri l) (i : Int) = (pack_size.f (gt (tri l) (i : Int))).bind fun y => some (y, true) := by
  unfold pack_Size.f
  rw [bif_false (c := decide ((i : Int) < 0)) (decide_eq_false (by omega)), bif_false (c := decide ((i : Int) ≥ ((tri l).length : Int))) (decide_eq_false (by omega)), good_ok hm hl]
  simp only [Option.bind_some, Bool.not_true]
  rw [bif_false rfl, gd_pos (by omega)]
end Go.Lf
