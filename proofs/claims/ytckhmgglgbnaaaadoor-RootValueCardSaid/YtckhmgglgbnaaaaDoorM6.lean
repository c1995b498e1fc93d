/- The trie of pairs: what Build gives. -/
import Derived.Test.YtckhmgglgbnaaaaDoorM5
set_option linter.unusedVariables false
set_option linter.unusedSimpArgs false
namespace Go.Lf
open Go
theorem drop_cons {α : Type} {x : List α} {i : Nat} (d : α) (h : i < x.length) : x.drop i = x.getD i d :: x.drop (i + 1) := by
  rw [List.drop_eq_getElem_cons h]
  simp [List.getD_eq_getElem?_getD, List.getElem?_eq_getElem h]
theorem getB_lt {s : ByteArray} {i : Nat} (h : i < s.size) : (B s).getD i 0 < 256 := by
  have h' : i < (B s).length := by rw [B_len]; exact h
  rw [List.getD_eq_getElem?_getD, List.getElem?_eq_getElem h', Option.getD_some]
  exact B_lt (List.getElem_mem h')
theorem shr4 {b : Nat} (h : b < 256) : shr .u8 (b : Int) 4 = ((b / 16 : Nat) : Int) := by
  have : ∀ b : Fin 256, shr .u8 ((b.val : Nat) : Int) 4 = ((b.val / 16 : Nat) : Int) := by decide +kernel
  exact this ⟨b, h⟩
theorem and15 {b : Nat} (h : b < 256) : band .u8 (b : Int) 15 = ((b % 16 : Nat) : Int) := by
  have : ∀ b : Fin 256, band .u8 ((b.val : Nat) : Int) 15 = ((b.val % 16 : Nat) : Int) := by decide +kernel
  exact this ⟨b, h⟩
theorem div16 {b : Nat} (h : b < 256) : wu8 ((b : Int).tdiv 16) = ((b / 16 : Nat) : Int) := by
  rw [show ((b : Int).tdiv 16) = ((b / 16 : Nat) : Int) by rw [Int.tdiv_eq_ediv_of_nonneg (by omega)]; omega]
  exact wu8_id (by omega)
theorem mod16 {b : Nat} : (b : Int).tmod 16 = ((b % 16 : Nat) : Int) := by
  rw [Int.tmod_eq_emod_of_nonneg (by omega)]; omega
/-- The nibbles from byte i on, as the program's numbers. -/
def nbi (x : List Nat) : List Int := (nbl x).map fun b => ((b : Nat) : Int)
theorem nbi_cons (a : Nat) (x : List Nat) : nbi (a :: x) = [((a / 16 : Nat) : Int), ((a % 16 : Nat) : Int)] ++ nbi x := by simp [nbi, nbl]
theorem nbi_len (x : List Nat) : (nbi x).length = 2 * x.length := by simp [nbi, nbl_len]
theorem of_l0 {s : ByteArray} (hs : s.size < 1000000) : ∀ (fuel i : Nat) (a : List Int), s.size - i < fuel → a.length ≤ 2 * i → i ≤ s.size → nibble_Of.l0 s fuel (a, i) = some (a ++ nbi ((B s).drop i))
  | 0, i, a, h, _, _ => by omega
  | fuel + 1, i, a, h, ha, hi' => by
    rw [nibble_Of.l0]
    rcases Nat.lt_or_ge i s.size with hi | hi
    · have g : 0 ≤ (i : Int) ∧ (i : Int) < (s.size : Int) := by omega
      have hb := getB_lt hi
      rw [bif_true (decide_eq_true g.2), gd_pos g, gd_pos g, gd_pos (by omega), w64_nat (x := (i : Int) + 1) (k := i + 1) (by simp) (by omega)]
      rw [of_l0 hs fuel (i + 1) _ (by omega) (by simp; omega) (by omega), drop_cons (x := B s) (i := i) 0 (by rw [B_len]; omega), nbi_cons, bt_lt, shr4 hb, and15 hb, List.append_assoc]
    · rw [bif_false (decide_eq_false (by omega)), List.drop_eq_nil_of_le (by rw [B_len]; omega)]
      simp [nbi, nbl]
theorem of2_l0 {s : ByteArray} (hs : s.size < 1000000) : ∀ (fuel i : Nat) (a : List Int), s.size - i < fuel → a.length ≤ 2 * i → i ≤ s.size → ref02_Of.l0 s fuel (a, i) = some (a ++ nbi ((B s).drop i))
  | 0, i, a, h, _, _ => by omega
  | fuel + 1, i, a, h, ha, hi' => by
    rw [ref02_Of.l0]
    rcases Nat.lt_or_ge i s.size with hi | hi
    · have g : 0 ≤ (i : Int) ∧ (i : Int) < (s.size : Int) := by omega
      have hb := getB_lt hi
      rw [bif_true (decide_eq_true g.2), gd_pos g, gd_pos g, gd_pos (by omega), w64_nat (x := (i : Int) + 1) (k := i + 1) (by simp) (by omega)]
      rw [of2_l0 hs fuel (i + 1) _ (by omega) (by simp; omega) (by omega), drop_cons (x := B s) (i := i) 0 (by rw [B_len]; omega), nbi_cons, bt_lt, div16 hb, mod16, List.append_assoc]
    · rw [bif_false (decide_eq_false (by omega)), List.drop_eq_nil_of_le (by rw [B_len]; omega)]
      simp [nbi, nbl]
theorem str_nbi (s : ByteArray) : strOfNums (nbi (B s)) = nib s := by
  apply B_inj
  have hlt := nbl_lt (x := B s) (fun b h => B_lt h)
  rw [B_nib, B_strOfNums]
  · simp [nbi, Function.comp_def]
  · intro x hx
    simp only [nbi, List.mem_map] at hx
    obtain ⟨b, hb, rfl⟩ := hx
    have := hlt b hb
    omega
theorem of_ok {s : ByteArray} (hs : s.size < 1000000) : nibble_Of.f s = some (nib s) := by
  unfold nibble_Of.f
  rw [show (2 : Int) * (s.size : Int) = ((2 * s.size : Nat) : Int) by omega, w64_nat (k := 2 * s.size) rfl (by omega), gd_pos (by omega)]
  have h : nibble_Of.l0 s BIG (([] : List Int), 0) = some ([] ++ nbi ((B s).drop 0)) := of_l0 hs BIG 0 [] (by have := BIG_ge; omega) (by simp) (by omega)
  rw [h]
  simp [str_nbi]
theorem of2_ok {s : ByteArray} (hs : s.size < 1000000) : ref02_Of.f s = some (nib s) := by
  unfold ref02_Of.f
  have h : ref02_Of.l0 s BIG (([] : List Int), 0) = some ([] ++ nbi ((B s).drop 0)) := of2_l0 hs BIG 0 [] (by have := BIG_ge; omega) (by simp) (by omega)
  rw [h]
  simp [str_nbi]
/-- All pairs' nibbles. -/
def nibs (l : List Pair) : List ByteArray := l.map fun x => nib x.key_
theorem tx_nibs {l : List Pair} {i : Nat} (h : i < l.length) : tx (nibs l) i = nib (key l i) := by
  simp [tx, nibs, key, List.getD_eq_getElem?_getD, List.getElem?_eq_getElem h]
theorem nb_nibs {l : List Pair} {i : Nat} (h : i < l.length) : nb (nibs l) i = nbl (B (key l i)) := by rw [nb, tx_nibs h, B_nib]
theorem keys_up {l : List Pair} (hm : MayP l) : ∀ (d i : Nat), i + 1 + d < l.length → B (key l i) < B (key l (i + 1 + d))
  | 0, i, h => by
    have := (hm (i + 1) (by omega)).2.2.2 (by omega)
    simpa using this
  | d + 1, i, h => by
    have h1 := keys_up hm d i (by omega)
    have := (hm (i + 1 + (d + 1)) (by omega)).2.2.2 (by omega)
    rw [show i + 1 + (d + 1) - 1 = i + 1 + d by omega] at this
    exact lex_trans h1 this
theorem in_nibs {l : List Pair} (hm : MayP l) (hl : l.length < 1000000) : In (nibs l) l := by
  have hlen : (nibs l).length = l.length := by simp [nibs]
  refine ⟨fun i j hij hj => ?_, hlen.symm, by omega, fun i hi d => ?_, fun i hi => ?_⟩
  · rw [hlen] at hj
    rw [nb_nibs (by omega), nb_nibs hj]
    have := keys_up hm (j - i - 1) i (by omega)
    rw [show i + 1 + (j - i - 1) = j by omega] at this
    exact nbl_mono this
  · rw [hlen] at hi
    have hlt := nbl_lt (x := B (key l i)) (fun b h => B_lt h)
    unfold byteAt
    rw [nb_nibs hi, List.getD_eq_getElem?_getD]
    rcases Nat.lt_or_ge d (nbl (B (key l i))).length with hd | hd
    · rw [List.getElem?_eq_getElem hd]
      exact hlt _ (List.getElem_mem hd)
    · rw [List.getElem?_eq_none hd]
      decide
  · rw [hlen] at hi
    rw [nb_nibs hi, nbl_len, B_len]
    have := (hm i hi).2.1
    omega
theorem rg0 {l : List Pair} (hm : MayP l) (h0 : 0 < l.length) : Rg (nibs l) 0 l.length 0 :=
  ⟨h0, by simp [nibs], fun i _ _ => Nat.zero_le _, fun i _ _ => by simp⟩
/-- The trie of pairs, as a tree (where there are any). -/
def tre (l : List Pair) : T := mk (nibs l) l 17 0 l.length 0
def tri (l : List Pair) : List Node := if l = [] then [] else (tre l).flat 0
def trp (l : List Pair) : List ByteArray := if l = [] then [] else (tre l).paths ⟨#[]⟩
theorem build_l0 {l : List Pair} (hm : MayP l) (hl : l.length < 1000000) : ∀ (fuel i : Nat) (a : List ByteArray), l.length - i < fuel → a.length = i → i ≤ l.length → trie_Build.l0 l fuel (a, i) = some (a ++ nibs (l.drop i))
  | 0, i, a, h, _, _ => by omega
  | fuel + 1, i, a, h, ha, hi' => by
    rw [trie_Build.l0]
    rcases Nat.lt_or_ge i l.length with hi | hi
    · have g : 0 ≤ (i : Int) ∧ (i : Int) < (l.length : Int) := by omega
      have hs := (hm i hi).2.1
      rw [bif_true (decide_eq_true g.2), gd_pos g, key_gt, of_ok (by omega), Option.bind_some, gd_pos (by omega), w64_nat (x := (i : Int) + 1) (k := i + 1) (by simp) (by omega)]
      rw [build_l0 hm hl fuel (i + 1) _ (by omega) (by simp; omega) (by omega), drop_cons default hi]
      simp [nibs, key]
    · rw [bif_false (decide_eq_false (by omega)), List.drop_eq_nil_of_le (by omega)]
      simp [nibs]
theorem build2_l0 {l : List Pair} (hm : MayP l) (hl : l.length < 1000000) : ∀ (fuel i : Nat) (a : List ByteArray), l.length - i < fuel → a.length = i → i ≤ l.length → ref10_Build.l0 l fuel (a, i) = some (a ++ nibs (l.drop i))
  | 0, i, a, h, _, _ => by omega
  | fuel + 1, i, a, h, ha, hi' => by
    rw [ref10_Build.l0]
    rcases Nat.lt_or_ge i l.length with hi | hi
    · have g : 0 ≤ (i : Int) ∧ (i : Int) < (l.length : Int) := by omega
      have hs := (hm i hi).2.1
      rw [bif_true (decide_eq_true g.2), gd_pos g, key_gt, of2_ok (by omega), Option.bind_some, gd_pos (by omega), w64_nat (x := (i : Int) + 1) (k := i + 1) (by simp) (by omega)]
      rw [build2_l0 hm hl fuel (i + 1) _ (by omega) (by simp; omega) (by omega), drop_cons default hi]
      simp [nibs, key]
    · rw [bif_false (decide_eq_false (by omega)), List.drop_eq_nil_of_le (by omega)]
      simp [nibs]
theorem Build_ok {l : List Pair} (hm : MayP l) (hl : l.length < 1000000) : trie_Build.f l = some (tri l, true) := by
  unfold trie_Build.f
  rcases tmay_ok hl with ⟨-, h⟩ | ⟨h, -⟩
  · rw [h, Option.bind_some, bif_false (c := !true) rfl]
    have h2 : trie_Build.l0 l BIG (([] : List ByteArray), 0) = some ([] ++ nibs (l.drop 0)) := build_l0 hm hl BIG 0 [] (by have := BIG_ge; omega) rfl (by omega)
    rw [h2, Option.bind_some]
    by_cases he : l = []
    · subst he
      simp [tri]
    · have h0 : 0 < l.length := List.length_pos_iff.mpr he
      rw [bif_true (by simp; omega)]
      have := build_ok (in_nibs hm hl) 17 0 l.length 0 BIG [] (rg0 hm h0) (by omega) (by have := BIG_ge; omega) (by simp; omega)
      simp only [Int.natCast_zero, List.nil_append, List.length_nil, Int.ofNat_zero] at this
      simp only [List.drop_zero, List.nil_append]
      have h3 : trie_builder_build.f BIG l (nibs l) [] 0 (l.length : Int) 0 = some (0, (mk (nibs l) l 17 0 l.length 0).flat 0) := this
      rw [h3]
      simp [tri, tre, he]
  · exact absurd hm h
theorem Build2_ok {l : List Pair} (hm : MayP l) (hl : l.length < 1000000) : ref10_Build.f l = some ⟨tri l, trp l, true⟩ := by
  unfold ref10_Build.f
  rcases may_ok hl with ⟨-, h⟩ | ⟨h, -⟩
  · rw [h, Option.bind_some, bif_false (c := !true) rfl]
    have h2 : ref10_Build.l0 l BIG (([] : List ByteArray), 0) = some ([] ++ nibs (l.drop 0)) := build2_l0 hm hl BIG 0 [] (by have := BIG_ge; omega) rfl (by omega)
    rw [h2, Option.bind_some]
    by_cases he : l = []
    · subst he
      simp [tri, trp]
    · have h0 : 0 < l.length := List.length_pos_iff.mpr he
      rw [bif_true (by simp; omega)]
      have := add_ok (in_nibs hm hl) 17 0 l.length 0 BIG [] [] (rg0 hm h0) (by omega) (by have := BIG_ge; omega) (by simp; omega) rfl
      have e : pre (nibs l) 0 0 = ⟨#[]⟩ := by
        apply B_inj
        rw [B_pre, B_empty, List.take_zero]
      rw [e] at this
      simp only [List.nil_append, List.length_nil] at this
      simp only [List.drop_zero, List.nil_append]
      have h3 : ref10_maker_add.f BIG l (nibs l) [] [] 0 (l.length : Int) 0 = some (0, (mk (nibs l) l 17 0 l.length 0).flat 0, (mk (nibs l) l 17 0 l.length 0).paths ⟨#[]⟩) := this
      rw [h3]
      simp [tri, trp, tre, he]
  · exact absurd hm h
end Go.Lf
