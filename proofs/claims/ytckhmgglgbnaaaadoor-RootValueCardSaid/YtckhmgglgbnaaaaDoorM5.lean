/- Pairs that may be; their nibbles; their trie. -/
import Derived.Test.YtckhmgglgbnaaaaDoorM4
set_option linter.unusedVariables false
set_option linter.unusedSimpArgs false
namespace Go.Lf
open Go
theorem lex_tri : ∀ x y : List Nat, x < y ∨ x = y ∨ y < x
  | [], [] => .inr (.inl rfl)
  | [], _ :: _ => .inl (by simp)
  | _ :: _, [] => .inr (.inr (by simp))
  | a :: x, b :: y => by
    simp only [List.cons_lt_cons_iff, List.cons.injEq]
    rcases Nat.lt_trichotomy a b with h | rfl | h
    · exact .inl (.inl h)
    · rcases lex_tri x y with h | rfl | h
      · exact .inl (.inr ⟨rfl, h⟩)
      · exact .inr (.inl ⟨rfl, rfl⟩)
      · exact .inr (.inr (.inr ⟨rfl, h⟩))
    · exact .inr (.inr (.inl h))
theorem lex_irr : ∀ x : List Nat, ¬ x < x
  | [] => by simp
  | a :: x => by
    simp only [List.cons_lt_cons_iff]
    rintro (h | ⟨-, h⟩)
    · omega
    · exact lex_irr x h
theorem lex_trans : ∀ {x y z : List Nat}, x < y → y < z → x < z
  | _, [], _, h, _ => by simp at h
  | _, _ :: _, [], _, h => by simp at h
  | [], _ :: _, _ :: _, _, _ => by simp
  | a :: x, b :: y, c :: z, h, h' => by
    simp only [List.cons_lt_cons_iff] at *
    rcases h with h | ⟨rfl, h⟩
    · rcases h' with h' | ⟨rfl, h'⟩
      · exact .inl (by omega)
      · exact .inl h
    · rcases h' with h' | ⟨rfl, h'⟩
      · exact .inl h'
      · exact .inr ⟨rfl, lex_trans h h'⟩
def key (l : List Pair) (i : Nat) : ByteArray := (l.getD i default).key_
theorem key_gt (l : List Pair) (i : Nat) : (gt l (i : Int)).key_ = key l i := rfl
theorem val_gt (l : List Pair) (i : Nat) : (gt l (i : Int)).value_ = val l i := rfl
/-- Pair i may stand where it stands. -/
def MayI (l : List Pair) (i : Nat) : Prop := 1 ≤ (key l i).size ∧ (key l i).size ≤ 8 ∧ (val l i).size ≤ 16 ∧ (0 < i → B (key l (i - 1)) < B (key l i))
def MayP (l : List Pair) : Prop := ∀ i, i < l.length → MayI l i
theorem not_lt_or {x y : ByteArray} : (slt x y || seq_ x y) = false ↔ B y < B x := by
  rw [slt_B, seq_B]
  simp only [Bool.or_eq_false_iff, decide_eq_false_iff_not, B_eq]
  constructor
  · rintro ⟨h1, h2⟩
    rcases lex_tri (B x) (B y) with h | h | h
    · exact absurd h h1
    · exact absurd h h2
    · exact h
  · intro h
    exact ⟨fun h' => lex_irr _ (lex_trans h h'), fun e => by rw [e] at h; exact lex_irr _ h⟩
theorem may_l0 {l : List Pair} (hl : l.length < 1000000) : ∀ (fuel i : Nat), l.length - i < fuel →
    ((∀ j, i ≤ j → j < l.length → MayI l j) ∧ ref10_May.l0 l fuel i = some (.inl ())) ∨ ((∃ j, i ≤ j ∧ j < l.length ∧ ¬ MayI l j) ∧ ref10_May.l0 l fuel i = some (.inr false))
  | 0, i, h => by omega
  | fuel + 1, i, h => by
    rw [ref10_May.l0]
    rcases Nat.lt_or_ge i l.length with hi | hi
    · have g : 0 ≤ (i : Int) ∧ (i : Int) < (l.length : Int) := by omega
      rw [bif_true (by simp; omega)]
      repeat rw [gd_pos g]
      rw [key_gt, val_gt]
      rw [w64_nat (x := (i : Int) + 1) (k := i + 1) (by simp) (by omega)]
      have hno : ¬ MayI l i → (∃ j, i ≤ j ∧ j < l.length ∧ ¬ MayI l j) := fun h => ⟨i, Nat.le_refl _, hi, h⟩
      have hyes : MayI l i → ((∀ j, i ≤ j → j < l.length → MayI l j) ∧ ref10_May.l0 l fuel ((i + 1 : Nat) : Int) = some (.inl ())) ∨ ((∃ j, i ≤ j ∧ j < l.length ∧ ¬ MayI l j) ∧ ref10_May.l0 l fuel ((i + 1 : Nat) : Int) = some (.inr false)) := by
        intro hm
        rcases may_l0 hl fuel (i + 1) (by omega) with ⟨h1, h2⟩ | ⟨⟨j, h1, h1', h1''⟩, h2⟩
        · refine .inl ⟨fun j hj hj' => ?_, h2⟩
          rcases Nat.eq_or_lt_of_le hj with rfl | hlt
          · exact hm
          · exact h1 j hlt hj'
        · exact .inr ⟨⟨j, by omega, h1', h1''⟩, h2⟩
      by_cases c1 : (key l i).size < 1
      · rw [bif_true (c := decide (((key l i).size : Int) < 1)) (decide_eq_true (by omega)), Option.bind_some, bif_true rfl]
        exact .inr ⟨hno fun h => by have := h.1; omega, rfl⟩
      rw [bif_false (c := decide (((key l i).size : Int) < 1)) (decide_eq_false (by omega))]
      by_cases c2 : 8 < (key l i).size
      · rw [bif_true (c := decide (((key l i).size : Int) > 8)) (decide_eq_true (by omega)), Option.bind_some, bif_true rfl]
        exact .inr ⟨hno fun h => by have := h.2.1; omega, rfl⟩
      rw [bif_false (c := decide (((key l i).size : Int) > 8)) (decide_eq_false (by omega))]
      by_cases c3 : 16 < (val l i).size
      · rw [bif_true (c := decide (((val l i).size : Int) > 16)) (decide_eq_true (by omega)), Option.bind_some, bif_true rfl]
        exact .inr ⟨hno fun h => by have := h.2.2.1; omega, rfl⟩
      rw [bif_false (c := decide (((val l i).size : Int) > 16)) (decide_eq_false (by omega))]
      by_cases c4 : 0 < i
      · rw [bif_true (c := decide ((i : Int) > 0)) (decide_eq_true (by omega)), show ((i : Int) - 1) = ((i - 1 : Nat) : Int) by omega, w64_nat (k := i - 1) rfl (by omega), gd_pos (by omega), Option.bind_some, key_gt]
        cases hc : (slt (key l i) (key l (i - 1)) || seq_ (key l i) (key l (i - 1)))
        · rw [bif_false rfl]
          exact hyes ⟨by omega, by omega, by omega, fun _ => not_lt_or.mp hc⟩
        · rw [bif_true rfl]
          exact .inr ⟨hno fun h => (by have := not_lt_or.mpr (h.2.2.2 c4); rw [hc] at this; cases this), rfl⟩
      · rw [bif_false (c := decide ((i : Int) > 0)) (decide_eq_false (by omega)), Option.bind_some, bif_false rfl]
        exact hyes ⟨by omega, by omega, by omega, fun h => absurd h c4⟩
    · rw [bif_false (by simp; omega)]
      exact .inl ⟨fun j h1 h2 => by omega, rfl⟩
theorem may_ok {l : List Pair} (hl : l.length < 1000000) : (MayP l ∧ ref10_May.f l = some true) ∨ (¬ MayP l ∧ ref10_May.f l = some false) := by
  unfold ref10_May.f
  rcases may_l0 hl BIG 0 (by have := BIG_ge; omega) with ⟨h1, h2⟩ | ⟨⟨j, h1, h1', h1''⟩, h2⟩
  · exact .inl ⟨fun i hi => h1 i (Nat.zero_le _) hi, by rw [show ((0 : Nat) : Int) = 0 from rfl] at h2; rw [h2]; rfl⟩
  · exact .inr ⟨fun h => h1'' (h j h1'), by rw [show ((0 : Nat) : Int) = 0 from rfl] at h2; rw [h2]; rfl⟩
theorem seq_empty (x : ByteArray) : seq_ x (⟨#[]⟩ : ByteArray) = decide (x.size < 1) := by
  rw [seq_B, Bool.eq_iff_iff]
  simp only [decide_eq_true_eq, B_eq, B_empty, ← B_len]
  cases B x <;> simp
theorem tmay_l0 {l : List Pair} (hl : l.length < 1000000) : ∀ (fuel i : Nat), l.length - i < fuel →
    ((∀ j, i ≤ j → j < l.length → MayI l j) ∧ trie_may.l0 l fuel i = some (.inl ())) ∨ ((∃ j, i ≤ j ∧ j < l.length ∧ ¬ MayI l j) ∧ trie_may.l0 l fuel i = some (.inr false))
  | 0, i, h => by omega
  | fuel + 1, i, h => by
    rw [trie_may.l0]
    rcases Nat.lt_or_ge i l.length with hi | hi
    · have g : 0 ≤ (i : Int) ∧ (i : Int) < (l.length : Int) := by omega
      rw [bif_true (by simp; omega)]
      repeat rw [gd_pos g]
      rw [key_gt, val_gt]
      rw [w64_nat (x := (i : Int) + 1) (k := i + 1) (by simp) (by omega)]
      have hno : ¬ MayI l i → (∃ j, i ≤ j ∧ j < l.length ∧ ¬ MayI l j) := fun h => ⟨i, Nat.le_refl _, hi, h⟩
      have hyes : MayI l i → ((∀ j, i ≤ j → j < l.length → MayI l j) ∧ trie_may.l0 l fuel ((i + 1 : Nat) : Int) = some (.inl ())) ∨ ((∃ j, i ≤ j ∧ j < l.length ∧ ¬ MayI l j) ∧ trie_may.l0 l fuel ((i + 1 : Nat) : Int) = some (.inr false)) := by
        intro hm
        rcases tmay_l0 hl fuel (i + 1) (by omega) with ⟨h1, h2⟩ | ⟨⟨j, h1, h1', h1''⟩, h2⟩
        · refine .inl ⟨fun j hj hj' => ?_, h2⟩
          rcases Nat.eq_or_lt_of_le hj with rfl | hlt
          · exact hm
          · exact h1 j hlt hj'
        · exact .inr ⟨⟨j, by omega, h1', h1''⟩, h2⟩
      by_cases c1 : (key l i).size < 1
      · rw [bif_true (c := seq_ (key l i) (⟨#[]⟩ : ByteArray)) (by rw [seq_empty]; exact decide_eq_true (by omega)), Option.bind_some, bif_true rfl]
        exact .inr ⟨hno fun h => by have := h.1; omega, rfl⟩
      rw [bif_false (c := seq_ (key l i) (⟨#[]⟩ : ByteArray)) (by rw [seq_empty]; exact decide_eq_false (by omega))]
      by_cases c2 : 8 < (key l i).size
      · rw [bif_true (c := decide (((key l i).size : Int) > 8)) (decide_eq_true (by omega)), Option.bind_some, bif_true rfl]
        exact .inr ⟨hno fun h => by have := h.2.1; omega, rfl⟩
      rw [bif_false (c := decide (((key l i).size : Int) > 8)) (decide_eq_false (by omega))]
      by_cases c3 : 16 < (val l i).size
      · rw [bif_true (c := decide (((val l i).size : Int) > 16)) (decide_eq_true (by omega)), Option.bind_some, bif_true rfl]
        exact .inr ⟨hno fun h => by have := h.2.2.1; omega, rfl⟩
      rw [bif_false (c := decide (((val l i).size : Int) > 16)) (decide_eq_false (by omega))]
      by_cases c4 : 0 < i
      · rw [bif_true (c := decide ((i : Int) > 0)) (decide_eq_true (by omega)), show ((i : Int) - 1) = ((i - 1 : Nat) : Int) by omega, w64_nat (k := i - 1) rfl (by omega), gd_pos (by omega), Option.bind_some, key_gt]
        cases hc : (slt (key l i) (key l (i - 1)) || seq_ (key l i) (key l (i - 1)))
        · rw [bif_false rfl]
          exact hyes ⟨by omega, by omega, by omega, fun _ => not_lt_or.mp hc⟩
        · rw [bif_true rfl]
          exact .inr ⟨hno fun h => (by have := not_lt_or.mpr (h.2.2.2 c4); rw [hc] at this; cases this), rfl⟩
      · rw [bif_false (c := decide ((i : Int) > 0)) (decide_eq_false (by omega)), Option.bind_some, bif_false rfl]
        exact hyes ⟨by omega, by omega, by omega, fun h => absurd h c4⟩
    · rw [bif_false (by simp; omega)]
      exact .inl ⟨fun j h1 h2 => by omega, rfl⟩
theorem tmay_ok {l : List Pair} (hl : l.length < 1000000) : (MayP l ∧ trie_may.f l = some true) ∨ (¬ MayP l ∧ trie_may.f l = some false) := by
  unfold trie_may.f
  rcases tmay_l0 hl BIG 0 (by have := BIG_ge; omega) with ⟨h1, h2⟩ | ⟨⟨j, h1, h1', h1''⟩, h2⟩
  · exact .inl ⟨fun i hi => h1 i (Nat.zero_le _) hi, by rw [show ((0 : Nat) : Int) = 0 from rfl] at h2; rw [h2]; rfl⟩
  · exact .inr ⟨fun h => h1'' (h j h1'), by rw [show ((0 : Nat) : Int) = 0 from rfl] at h2; rw [h2]; rfl⟩
/-- The nibbles of a text. -/
def nbl (x : List Nat) : List Nat := x.flatMap fun b => [b / 16, b % 16]
def nib (s : ByteArray) : ByteArray := S (nbl (B s))
theorem nbl_lt {x : List Nat} (h : ∀ b ∈ x, b < 256) : ∀ b ∈ nbl x, b < 16 := by
  intro b hb
  simp only [nbl, List.mem_flatMap] at hb
  obtain ⟨c, hc, hb⟩ := hb
  have := h c hc
  simp at hb
  omega
theorem B_nib (s : ByteArray) : B (nib s) = nbl (B s) := B_S fun b hb => by have := nbl_lt (fun b h => B_lt h) b hb; omega
theorem nbl_len : ∀ x : List Nat, (nbl x).length = 2 * x.length
  | [] => rfl
  | a :: x => by
    have := nbl_len x
    simp only [nbl, List.flatMap_cons, List.length_append, List.length_cons, List.length_nil] at *
    omega
theorem nbl_mono : ∀ {x y : List Nat}, x < y → nbl x < nbl y
  | _, [], h => by simp at h
  | [], b :: y, _ => by simp [nbl]
  | a :: x, b :: y, h => by
    simp only [List.cons_lt_cons_iff] at h
    simp only [nbl, List.flatMap_cons, List.cons_append, List.nil_append, List.cons_lt_cons_iff]
    rcases h with h | ⟨rfl, h⟩
    · omega
    · exact .inr ⟨rfl, .inr ⟨rfl, nbl_mono h⟩⟩
end Go.Lf
