/- The trie of pairs is one that the walk takes; it finds the pairs again. So it is Good. -/
import Derived.Test.YtckhmgglgbnaaaaDoorM8
set_option linter.unusedVariables false
set_option linter.unusedSimpArgs false
namespace Go.Lf
open Go
variable {n : List ByteArray} {l : List Pair}
theorem pre_size (n : List ByteArray) (i d : Nat) : (pre n i d).size ≤ d := by
  rw [← B_len, B_pre, List.length_take]
  omega
theorem pre_tail {f d : Nat} (h : d ≤ (nb n f).length) : pre n f d ++ sub (tx n f) (d : Int) ((tx n f).size : Int) = tx n f := by
  apply B_inj
  rw [B_append, B_pre, sub_tail]
  exact List.take_append_drop ..
theorem pre_mid {f d c : Nat} : pre n f d ++ sub (tx n f) (d : Int) ((d + c : Nat) : Int) = pre n f (d + c) := by
  apply B_inj
  rw [B_append, B_pre, B_pre, B_sub]
  simp only [Int.toNat_natCast, nb]
  rw [show (B (tx n f)).take d = ((B (tx n f)).take (d + c)).take d by rw [List.take_take, Nat.min_eq_left (by omega)], List.take_append_drop]
theorem app_nil (p : ByteArray) : p ++ (⟨#[]⟩ : ByteArray) = p := by
  apply B_inj
  rw [B_append, B_empty, List.append_nil]
theorem pre_all {f d : Nat} (h : (nb n f).length = d) : pre n f d = tx n f := by
  apply B_inj
  rw [B_pre, ← h, List.take_length]
  rfl
def ent (n : List ByteArray) (l : List Pair) (i : Nat) : ByteArray × ByteArray := (tx n i, val l i)
/-- What the texts are besides: of even length, of nibbles. -/
def Evn (n : List ByteArray) : Prop := ∀ i, i < n.length → (nb n i).length % 2 = 0 ∧ Sml (tx n i)
theorem mkKs_prs (hI : In n l) {f t d k : Nat} (hR : Rg n f t d)
    (hg : ∀ i j, Rg n i j (d + 1) → (mk n l k i j (d + 1)).wf (pre n i (d + 1)) ∧ (mk n l k i j (d + 1)).prs (pre n i (d + 1)) = (List.range' i (j - i)).map (ent n l)) :
    ∀ (m i : Nat), t - i ≤ m → (f < i ∨ d < (nb n f).length ∧ f ≤ i) → i ≤ t →
      (mkKs n (fun i j => mk n l k i j (d + 1)) d t m i).wf (pre n f d) true ∧ (mkKs n (fun i j => mk n l k i j (d + 1)) d t m i).prs (pre n f d) true = (List.range' i (t - i)).map (ent n l)
  | 0, i, hm, hi, hit => by
    have : t - i = 0 := by omega
    rw [this]
    exact ⟨trivial, rfl⟩
  | m + 1, i, hm, hi, hit => by
    have hle := hR.le
    rw [mkKs]
    split
    · rename_i ht
      have hgt := run_gt (n := n) (d := d) ht
      have hrl := run_le (n := n) (d := d) (Nat.le_of_lt ht)
      have hb := hI.nib i (by omega) d
      have h1 := hR.go hI.srt hi ht
      have he : pre n f d ++ strOfNums [((byteAt n i d : Nat) : Int)] = pre n i (d + 1) := pre_step (by rw [hR.same i (by omega) ht]) h1 (by omega)
      obtain ⟨g1, g2⟩ := hg i (run n d t i) (hR.run hI.srt hi ht)
      obtain ⟨r1, r2⟩ := mkKs_prs hI hR hg m (run n d t i) (by omega) (by omega) hrl
      rw [Ks.wf, Ks.prs]
      simp only [if_true]
      rw [he, g2, r2, ← List.map_append]
      refine ⟨⟨g1, r1⟩, ?_⟩
      rw [show t - i = (run n d t i - i) + (t - run n d t i) by omega, ← List.range'_append_1 (s := i)]
      congr 2
      rw [show i + (run n d t i - i) = run n d t i by omega]
    · have : t - i = 0 := by omega
      rw [this]
      exact ⟨trivial, rfl⟩
theorem mk_prs (hI : In n l) (hE : Evn n) : ∀ (k f t d : Nat), Rg n f t d → 17 ≤ d + k → (mk n l k f t d).wf (pre n f d) ∧ (mk n l k f t d).prs (pre n f d) = (List.range' f (t - f)).map (ent n l)
  | 0, f, t, d, hR, hd => by
    have := hI.short f (by have := hR.lt; have := hR.le; omega)
    have := hR.long f (Nat.le_refl _) hR.lt
    omega
  | k + 1, f, t, d, hR, hd => by
    have hlt := hR.lt
    have hle := hR.le
    have hsh := hI.short f (by omega)
    have hlo := hR.long f (Nat.le_refl _) hlt
    have hps := pre_size n f d
    obtain ⟨hev, hsm⟩ := hE f (by omega)
    rw [mk]
    by_cases h1 : t = f + 1
    · rw [if_pos h1]
      simp only [T.wf, T.prs, Ks.wf, Ks.up, Ks.prs]
      rw [pre_tail hlo]
      refine ⟨⟨by omega, ?_, fun _ => ⟨by rw [size_nb]; exact hev, hsm⟩, trivial, trivial⟩, ?_⟩
      · rw [sub_size _ _ _ (Nat.le_refl _), size_nb]; omega
      · simp [h1, ent]
    · rw [if_neg h1]
      by_cases h2 : 0 < comm ((nb n f).drop d) ((nb n (t - 1)).drop d)
      · rw [if_pos h2]
        have hR2 := hR.comm hI.srt
        have hcl := comm_le_left ((nb n f).drop d) ((nb n (t - 1)).drop d)
        simp only [List.length_drop] at hcl
        generalize hc : comm ((nb n f).drop d) ((nb n (t - 1)).drop d) = c at h2 hR2 hcl ⊢
        obtain ⟨r1, r2⟩ := mk_prs hI hE k f t (d + c) hR2 (by omega)
        simp only [T.wf, T.prs, Ks.wf, Ks.up, Ks.prs]
        rw [pre_mid]
        refine ⟨⟨by omega, ?_, fun h => by simp at h, ⟨by omega, by omega, trivial⟩, ?_, trivial⟩, ?_⟩
        · rw [sub_size _ _ _ (by rw [size_nb]; omega)]; omega
        · simpa using r1
        · simpa using r2
      · rw [if_neg h2]
        have hg : ∀ i j, Rg n i j (d + 1) → (mk n l k i j (d + 1)).wf (pre n i (d + 1)) ∧ (mk n l k i j (d + 1)).prs (pre n i (d + 1)) = (List.range' i (j - i)).map (ent n l) :=
          fun i j h => mk_prs hI hE k i j (d + 1) h (by omega)
        have hlt16 : ∀ i, i < t → byteAt n i d < 16 := fun i hi => hI.nib i (by omega) d
        by_cases h3 : (nb n f).length = d
        · rw [if_pos h3]
          obtain ⟨r1, r2⟩ := mkKs_prs hI hR hg (t - f) (f + 1) (by omega) (by omega) (by omega)
          simp only [T.wf, T.prs]
          rw [app_nil]
          refine ⟨⟨by omega, by decide, fun _ => ⟨?_, ?_⟩, mkKs_up hI.srt hR _ hlt16 _ _ (by omega) _ (fun _ => Nat.zero_le _), r1⟩, ?_⟩
          · rw [pre_all h3, size_nb]; exact hev
          · rw [pre_all h3]; exact hsm
          · simp only [if_true]
            have : (3 == (3 : Int)) = true := rfl
            rw [this, r2, pre_all h3, show t - f = (t - (f + 1)) + 1 by omega, List.range'_succ]
            rfl
        · rw [if_neg h3]
          obtain ⟨r1, r2⟩ := mkKs_prs hI hR hg (t - f) f (by omega) (by omega) (by omega)
          simp only [T.wf, T.prs]
          rw [app_nil]
          refine ⟨⟨by omega, by decide, fun h => by simp at h, mkKs_up hI.srt hR _ hlt16 _ _ (by omega) _ (fun _ => Nat.zero_le _), r1⟩, ?_⟩
          have : (3 == (3 : Int)) = true := rfl
          rw [this, r2]
          simp
theorem evn_nibs {l : List Pair} : Evn (nibs l) := by
  intro i hi
  have hi : i < l.length := by simpa [nibs] using hi
  refine ⟨by rw [nb_nibs hi, nbl_len]; omega, ?_⟩
  rw [tx_nibs hi]
  exact sml_nib _
theorem pre_zero : pre n 0 0 = ⟨#[]⟩ := by
  apply B_inj
  rw [B_pre, B_empty, List.take_zero]
theorem tre_wf (hm : MayP l) (hl : l.length < 1000000) (h0 : 0 < l.length) : (tre l).wf ⟨#[]⟩ := by
  have := (mk_prs (in_nibs hm hl) evn_nibs 17 0 l.length 0 (rg0 hm h0) (by omega)).1
  rwa [pre_zero] at this
theorem tre_prs (hm : MayP l) (hl : l.length < 1000000) (h0 : 0 < l.length) : ((tre l).prs ⟨#[]⟩).map prp = l := by
  have := (mk_prs (in_nibs hm hl) evn_nibs 17 0 l.length 0 (rg0 hm h0) (by omega)).2
  rw [pre_zero] at this
  have e : (tre l).prs ⟨#[]⟩ = (List.range' 0 (l.length - 0)).map (ent (nibs l) l) := this
  rw [e, List.map_map]
  apply List.ext_getElem
  · simp
  · intro i h1 h2
    simp only [List.getElem_map, List.getElem_range', Function.comp, prp, ent, Nat.one_mul, Nat.zero_add]
    rw [tx_nibs h2, pck_nib]
    simp [key, val, List.getD_eq_getElem?_getD, List.getElem?_eq_getElem h2]
theorem tre_sz (hl : l.length < 1000000) (h0 : 0 < l.length) : (tre l).sz ≤ 18 * l.length := by
  have := mk_sz (n := nibs l) (l := l) 17 0 l.length 0 h0
  exact this
theorem tri_len (h0 : 0 < l.length) : (tri l).length = (tre l).sz := by
  have : l ≠ [] := List.length_pos_iff.mp h0
  rw [tri, if_neg this, T.flat_len]
theorem same_l0 {a : List Node} (ha : a.length < 1000000000) : ∀ (fuel i : Nat), a.length - i < fuel → trie_Same.l0 a a fuel i = some (.inl ())
  | 0, i, h => by omega
  | fuel + 1, i, h => by
    rw [trie_Same.l0]
    rcases Nat.lt_or_ge i a.length with hi | hi
    · have g : 0 ≤ (i : Int) ∧ (i : Int) < (a.length : Int) := by omega
      rw [bif_true (decide_eq_true g.2), gd_pos g, gd_pos g, w64_nat (x := (i : Int) + 1) (k := i + 1) (by simp) (by omega)]
      have : eq_Node (gt a (i : Int)) (gt a (i : Int)) = true := by simp [eq_Node]
      rw [this, bif_false (c := !true) rfl]
      exact same_l0 ha fuel (i + 1) (by omega)
    · rw [bif_false (decide_eq_false (by omega))]
theorem same_ok {a : List Node} (ha : a.length < 1000000000) : trie_Same.f a a = some true := by
  unfold trie_Same.f
  rw [bif_false (c := (a.length : Int) != (a.length : Int)) (by simp)]
  have := same_l0 ha BIG 0 (by have := BIG_ge; omega)
  rw [show ((0 : Nat) : Int) = 0 from rfl] at this
  rw [this]
  rfl
/-- The walk over the trie of pairs. -/
theorem walked_ok (hm : MayP l) (hl : l.length < 10000) : trie_walked.f (tri l) = some (⟨tri l, ((tri l).length : Int), l, trp l⟩, true) := by
  unfold trie_walked.f
  by_cases he : l = []
  · subst he
    have e : tri ([] : List Pair) = [] := rfl
    have h : trie_Build.f [] = some (([] : List Node), true) := by rw [← e]; exact Build_ok hm (by simp)
    rw [e]
    rw [bif_false (c := decide ((([] : List Node).length : Int) > 0)) rfl, Option.bind_some]
    simp only [bif_false (c := false) rfl]
    rw [h]
    simp only [Option.bind_some]
    rw [bif_true rfl, same_ok (by simp)]
    rfl
  · have h0 : 0 < l.length := List.length_pos_iff.mpr he
    have hsz := tre_sz (by omega) h0
    have hlen := tri_len h0
    have hpos := T.sz_pos (tre l)
    have ht : tri l = (tre l).flat 0 := by rw [tri, if_neg he]
    have h := T.walk (tre l) 0 ⟨#[]⟩ BIG (tri l) [] [] (by rw [ht]; simp) rfl (tre_wf hm (by omega) h0) (by have := BIG_ge; omega) (by omega) [] [] (by simp) rfl
    rw [tre_prs hm (by omega) h0] at h
    simp only [List.nil_append, Nat.zero_add] at h
    rw [show ((0 : Nat) : Int) = 0 from rfl] at h
    rw [bif_true (c := decide (((tri l).length : Int) > 0)) (decide_eq_true (by omega)), h]
    simp only [Option.bind_some, Bool.not_true]
    rw [bif_false rfl, Build_ok hm (by omega)]
    simp only [Option.bind_some]
    rw [bif_true rfl, same_ok (by omega)]
    simp only [Option.bind_some]
    have e : trp l = (tre l).paths ⟨#[]⟩ := by rw [trp, if_neg he]
    rw [e, hlen]
theorem good_ok (hm : MayP l) (hl : l.length < 10000) : trie_Good.f (tri l) = some true := by
  unfold trie_Good.f
  rw [walked_ok hm hl]
  rfl
end Go.Lf
