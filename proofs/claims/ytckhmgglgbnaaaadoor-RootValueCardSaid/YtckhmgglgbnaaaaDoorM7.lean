/- Nibbles packed into bytes. -/
import Derived.Test.YtckhmgglgbnaaaaDoorM6
set_option linter.unusedVariables false
set_option linter.unusedSimpArgs false
namespace Go.Lf
open Go
def pk : List Nat → List Nat
  | [] => []
  | [a] => [16 * a]
  | a :: b :: r => (16 * a + b) :: pk r
def Sml (x : ByteArray) : Prop := ∀ b ∈ B x, b < 16
theorem pk_lt : ∀ {x : List Nat}, (∀ b ∈ x, b < 16) → ∀ b ∈ pk x, b < 256
  | [], _, b, h => by simp [pk] at h
  | [a], h, b, hb => by
    have := h a (by simp)
    simp [pk] at hb
    omega
  | a :: c :: r, h, b, hb => by
    have h1 := h a (by simp)
    have h2 := h c (by simp)
    simp only [pk, List.mem_cons] at hb
    rcases hb with rfl | hb
    · omega
    · exact pk_lt (fun b hb => h b (by simp [hb])) b hb
theorem pk_len : ∀ x : List Nat, (pk x).length = (x.length + 1) / 2
  | [] => rfl
  | [a] => by simp [pk]
  | a :: b :: r => by
    simp only [pk, List.length_cons, pk_len r]
    omega
theorem pk_nbl : ∀ {x : List Nat}, pk (nbl x) = x
  | [] => rfl
  | a :: x => by
    have := pk_nbl (x := x)
    simp only [nbl, List.flatMap_cons, List.cons_append, List.nil_append, pk] at *
    rw [this]
    congr 1
    omega
theorem small_l0 {s : ByteArray} (hs : s.size < 1000000) : ∀ (fuel i : Nat), s.size - i < fuel → ((∀ b ∈ (B s).drop i, b < 16) ∧ nibble_small.l0 s fuel i = some (.inl ())) ∨ ((¬ ∀ b ∈ (B s).drop i, b < 16) ∧ nibble_small.l0 s fuel i = some (.inr false))
  | 0, i, h => by omega
  | fuel + 1, i, h => by
    rw [nibble_small.l0]
    rcases Nat.lt_or_ge i s.size with hi | hi
    · have g : 0 ≤ (i : Int) ∧ (i : Int) < (s.size : Int) := by omega
      rw [bif_true (decide_eq_true g.2), gd_pos g, bt_lt, w64_nat (x := (i : Int) + 1) (k := i + 1) (by simp) (by omega), drop_cons (x := B s) (i := i) 0 (by rw [B_len]; omega)]
      by_cases hb : 15 < (B s).getD i 0
      · rw [bif_true (decide_eq_true (by omega))]
        refine .inr ⟨fun h => ?_, rfl⟩
        have := h _ (List.mem_cons_self ..)
        omega
      · rw [bif_false (decide_eq_false (by omega))]
        rcases small_l0 hs fuel (i + 1) (by omega) with ⟨h1, h2⟩ | ⟨h1, h2⟩
        · refine .inl ⟨fun b hb => ?_, h2⟩
          rcases List.mem_cons.mp hb with rfl | hb
          · omega
          · exact h1 b hb
        · exact .inr ⟨fun h => h1 fun b hb => h b (List.mem_cons_of_mem _ hb), h2⟩
    · rw [bif_false (decide_eq_false (by omega)), List.drop_eq_nil_of_le (by rw [B_len]; omega)]
      exact .inl ⟨by simp, rfl⟩
theorem small_ok {s : ByteArray} (hs : s.size < 1000000) : (Sml s ∧ nibble_small.f s = some true) ∨ (¬ Sml s ∧ nibble_small.f s = some false) := by
  unfold nibble_small.f Sml
  have h := small_l0 hs BIG 0 (by have := BIG_ge; omega)
  rw [List.drop_zero, show ((0 : Nat) : Int) = 0 from rfl] at h
  rcases h with ⟨h1, h2⟩ | ⟨h1, h2⟩
  · exact .inl ⟨h1, by rw [h2]; rfl⟩
  · exact .inr ⟨h1, by rw [h2]; rfl⟩
theorem or_hi {a : Nat} (h : a < 16) : bor .u8 0 (shl .u8 (a : Int) 4) = ((16 * a : Nat) : Int) := by
  have : ∀ a : Fin 16, bor .u8 0 (shl .u8 ((a.val : Nat) : Int) 4) = ((16 * a.val : Nat) : Int) := by decide +kernel
  exact this ⟨a, h⟩
theorem or_lo {a b : Nat} (h : a < 16) (h' : b < 16) : bor .u8 ((16 * a : Nat) : Int) (shl .u8 (b : Int) 0) = ((16 * a + b : Nat) : Int) := by
  have : ∀ a b : Fin 16, bor .u8 ((16 * a.val : Nat) : Int) (shl .u8 ((b.val : Nat) : Int) 0) = ((16 * a.val + b.val : Nat) : Int) := by decide +kernel
  exact this ⟨a, h⟩ ⟨b, h'⟩
def casts (x : List Nat) : List Int := x.map fun b => ((b : Nat) : Int)
theorem gtI_end (D r : List Int) (x : Int) (j : Nat) (h : D.length = j) : gt (D ++ x :: r) (j : Int) = x := by subst h; simp [gt]
theorem setI_end (D r : List Int) (x y : Int) (j : Nat) (h : D.length = j) : (D ++ x :: r).set ((j : Int)).toNat y = D ++ y :: r := by subst h; simp
theorem get_small {s : ByteArray} (h : Sml s) {i : Nat} (hi : i < s.size) : (B s).getD i 0 < 16 := by
  have h' : i < (B s).length := by rw [B_len]; exact hi
  rw [List.getD_eq_getElem?_getD, List.getElem?_eq_getElem h', Option.getD_some]
  exact h _ (List.getElem_mem h')
theorem two_l0 {s : ByteArray} (hs : s.size < 1000000) (hm : Sml s) : ∀ (m j fuel : Nat) (D : List Int), s.size - 2 * j ≤ m → 2 * j ≤ s.size + 1 → s.size - 2 * j < fuel → D.length = j →
    nibble_two.l0 s fuel (D ++ List.replicate ((s.size + 1) / 2 - j) 0, ((2 * j : Nat) : Int)) = some (D ++ casts (pk ((B s).drop (2 * j))))
  | m, j, 0, D, _, _, h, _ => by omega
  | m, j, fuel + 1, D, hm', hj, h, hD => by
    rw [nibble_two.l0]
    rcases Nat.lt_or_ge (2 * j) s.size with hi | hi
    · have g : 0 ≤ ((2 * j : Nat) : Int) ∧ ((2 * j : Nat) : Int) < (s.size : Int) := by omega
      obtain ⟨m, rfl⟩ : ∃ m', m = m' + 1 := ⟨m - 1, by omega⟩
      obtain ⟨r, hr⟩ : ∃ r, (s.size + 1) / 2 - j = r + 1 := ⟨(s.size + 1) / 2 - j - 1, by omega⟩
      have ha := get_small hm hi
      have e1 : (((2 * j : Nat) : Int)).tmod 2 = 0 := by rw [Int.tmod_eq_emod_of_nonneg (by omega)]; omega
      have e2 : w64 ((((2 * j : Nat) : Int)).tdiv 2) = (j : Int) := by
        rw [show (((2 * j : Nat) : Int)).tdiv 2 = (j : Int) by rw [Int.tdiv_eq_ediv_of_nonneg (by omega)]; omega]
        exact w64_nat rfl (by omega)
      have e3 : vg (#v[4, 0] : Vector Int 2) 0 = 4 := rfl
      rw [bif_true (decide_eq_true g.2), e1, e2, gd_pos (by omega), gd_pos (by simp; omega), gd_pos g, e3, gd_pos (by omega), gd_pos (by simp; omega)]
      rw [hr, List.replicate_succ, gtI_end _ _ _ _ hD, setI_end _ _ _ _ _ hD, bt_lt, or_hi ha, w64_nat (x := ((2 * j : Nat) : Int) + 1) (k := 2 * j + 1) (by simp) (by omega)]
      obtain ⟨fuel, rfl⟩ : ∃ f', fuel = f' + 1 := ⟨fuel - 1, by omega⟩
      rw [nibble_two.l0, drop_cons (x := B s) (i := 2 * j) 0 (by rw [B_len]; omega)]
      rcases Nat.lt_or_ge (2 * j + 1) s.size with hi2 | hi2
      · have g2 : 0 ≤ ((2 * j + 1 : Nat) : Int) ∧ ((2 * j + 1 : Nat) : Int) < (s.size : Int) := by omega
        have hb := get_small hm hi2
        have e4 : (((2 * j + 1 : Nat) : Int)).tmod 2 = 1 := by rw [Int.tmod_eq_emod_of_nonneg (by omega)]; omega
        have e5 : w64 ((((2 * j + 1 : Nat) : Int)).tdiv 2) = (j : Int) := by
          rw [show (((2 * j + 1 : Nat) : Int)).tdiv 2 = (j : Int) by rw [Int.tdiv_eq_ediv_of_nonneg (by omega)]; omega]
          exact w64_nat rfl (by omega)
        have e6 : vg (#v[4, 0] : Vector Int 2) 1 = 0 := rfl
        rw [bif_true (decide_eq_true g2.2), e4, e5, gd_pos (by omega), gd_pos (by simp; omega), gd_pos g2, e6, gd_pos (by omega), gd_pos (by simp; omega)]
        rw [gtI_end _ _ _ _ hD, setI_end _ _ _ _ _ hD, bt_lt, or_lo ha hb, w64_nat (x := ((2 * j + 1 : Nat) : Int) + 1) (k := 2 * (j + 1)) (by omega) (by omega)]
        have hh := two_l0 hs hm m (j + 1) fuel (D ++ [((16 * (B s).getD (2 * j) 0 + (B s).getD (2 * j + 1) 0 : Nat) : Int)]) (by omega) (by omega) (by omega) (by simp; omega)
        rw [show (s.size + 1) / 2 - (j + 1) = r by omega] at hh
        simp only [List.append_assoc, List.singleton_append] at hh
        rw [hh, drop_cons (x := B s) (i := 2 * j + 1) 0 (by rw [B_len]; omega)]
        simp [pk, casts, Nat.mul_add]
      · rw [bif_false (decide_eq_false (by omega)), List.drop_eq_nil_of_le (by rw [B_len]; omega)]
        have : r = 0 := by omega
        subst this
        simp [pk, casts]
    · rw [bif_false (decide_eq_false (by omega)), List.drop_eq_nil_of_le (by rw [B_len]; omega)]
      have : (s.size + 1) / 2 - j = 0 := by omega
      rw [this]
      simp [pk, casts]
/-- The packed bytes of a text of nibbles. -/
def pck (s : ByteArray) : ByteArray := S (pk (B s))
theorem B_pck {s : ByteArray} (h : Sml s) : B (pck s) = pk (B s) := B_S (pk_lt h)
theorem two_ok {s : ByteArray} (hs : s.size < 1000000) (hm : Sml s) : nibble_two.f s = some (pck s) := by
  unfold nibble_two.f
  have e : w64 ((w64 ((s.size : Int) + 1)).tdiv 2) = (((s.size + 1) / 2 : Nat) : Int) := by
    rw [w64_nat (x := (s.size : Int) + 1) (k := s.size + 1) (by simp) (by omega)]
    rw [show (((s.size + 1 : Nat) : Int)).tdiv 2 = (((s.size + 1) / 2 : Nat) : Int) by rw [Int.tdiv_eq_ediv_of_nonneg (by omega)]; omega]
    exact w64_nat rfl (by omega)
  rw [e, gd_pos (by omega)]
  have h := two_l0 hs hm s.size 0 BIG [] (by omega) (by omega) (by have := BIG_ge; omega) rfl
  simp only [List.nil_append, Nat.mul_zero, Nat.sub_zero, List.drop_zero] at h
  rw [show ((0 : Nat) : Int) = 0 from rfl] at h
  rw [Int.toNat_natCast, h, Option.bind_some]
  congr 1
  apply B_inj
  have hlt := pk_lt hm
  rw [B_pck hm, B_strOfNums]
  · simp [casts, Function.comp_def]
  · intro x hx
    simp only [casts, List.mem_map] at hx
    obtain ⟨b, hb, rfl⟩ := hx
    have := hlt b hb
    omega
theorem key_ok {s : ByteArray} (hs : s.size < 1000000) : (s.size % 2 = 0 ∧ Sml s ∧ nibble_Key.f s = some (pck s, true)) ∨ (¬ (s.size % 2 = 0 ∧ Sml s) ∧ nibble_Key.f s = some (⟨#[]⟩, false)) := by
  unfold nibble_Key.f
  have e : ((s.size : Int)).tmod 2 = ((s.size % 2 : Nat) : Int) := by rw [Int.tmod_eq_emod_of_nonneg (by omega)]; omega
  rw [e]
  by_cases h : s.size % 2 = 0
  · rw [h, bif_false (c := ((0 : Nat) : Int) != 0) rfl]
    rcases small_ok hs with ⟨h1, h2⟩ | ⟨h1, h2⟩
    · rw [h2, Option.bind_some, Option.bind_some, bif_false (c := !true) rfl, two_ok hs h1]
      exact .inl ⟨rfl, h1, rfl⟩
    · rw [h2, Option.bind_some, Option.bind_some, bif_true (c := !false) rfl]
      exact .inr ⟨fun h => h1 h.2, rfl⟩
  · have : s.size % 2 = 1 := by omega
    rw [this, bif_true (c := ((1 : Nat) : Int) != 0) rfl, Option.bind_some, bif_true rfl]
    exact .inr ⟨fun h => by omega, rfl⟩
theorem sml_nib (s : ByteArray) : Sml (nib s) := by
  intro b hb
  rw [B_nib] at hb
  exact nbl_lt (fun b h => B_lt h) b hb
theorem pck_nib (s : ByteArray) : pck (nib s) = s := by
  apply B_inj
  rw [B_pck (sml_nib s), B_nib, pk_nbl]
end Go.Lf
