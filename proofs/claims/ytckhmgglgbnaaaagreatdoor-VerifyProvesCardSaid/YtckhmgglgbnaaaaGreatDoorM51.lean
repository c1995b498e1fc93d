/- The document's text of an Item is the program's. -/
import Derived.Test.YtckhmgglgbnaaaaGreatDoorM45
import Derived.Test.YtckhmgglgbnaaaaGreatDoorM50
set_option linter.unusedVariables false
set_option linter.unusedSimpArgs false
namespace Go.Lf
open Go
theorem sml_at {s : ByteArray} (h : Sml s) {i : Nat} (hi : i < s.size) : ∃ b : Nat, b < 16 ∧ bt s (i : Int) = (b : Int) ∧ (B s).getD i 0 = b := ⟨_, get_small h hi, bt_B _ _, rfl⟩
theorem good2_l0 {s : ByteArray} (h1 : s.size ≤ 16) (h2 : Sml s) : ∀ (fuel i : Nat), s.size - i < fuel → ref02_Good.l0 s fuel (i : Int) = some (.inl ())
 | 0, i, h => by omega
 | fuel + 1, i, h => by
  rw [ref02_Good.l0]
  rcases Nat.lt_or_ge i s.size with hi | hi
  ·obtain ⟨b, b1, b2, -⟩ := sml_at h2 hi
   rw [bif_true (decide_eq_true (by omega)), gd_pos (by omega), b2, bif_false (decide_eq_false (by omega)), w64_nat (x := (i : Int) + 1) (k := i + 1) (by simp) (by omega)]
   exact good2_l0 h1 h2 fuel (i + 1) (by omega)
  ·rw [bif_false (decide_eq_false (by omega))]
theorem good2_ok {s : ByteArray} (h1 : s.size ≤ 16) (h2 : Sml s) : ref02_Good.f s = some true := by
 unfold ref02_Good.f
 have h := good2_l0 h1 h2 BIG 0 (by have := BIG_ge; omega)
 rw [show ((0 : Nat) : Int) = 0 from rfl] at h
 rw [h]
 simp only [Option.bind_some]
 rw [decide_eq_true (by omega)]
theorem rpk_l0 {s : ByteArray} (h1 : s.size ≤ 16) (h2 : Sml s) : ∀ (fuel j : Nat) (acc : List Int), s.size + 2 ≤ 2 * j + 2 * fuel ∧ 0 < fuel → acc.length ≤ 1 + j → ref02_Pack.l0 s fuel (acc, ((2 * j : Nat) : Int)) = some (acc ++ (pk ((B s).drop (2 * j))).map Int.ofNat)
 | 0, j, acc, h, ha => by omega
 | fuel + 1, j, acc, h, ha => by
  rw [ref02_Pack.l0]
  rcases Nat.lt_or_ge (2 * j) s.size with hi | hi
  ·obtain ⟨a, a1, a2, a3⟩ := sml_at h2 hi
   have e1 : w64 (((2 * j : Nat) : Int) + 1) = ((2 * j + 1 : Nat) : Int) := w64_nat (by simp) (by omega)
   have e2 : w64 (((2 * j : Nat) : Int) + 2) = ((2 * (j + 1) : Nat) : Int) := w64_nat (by omega) (by omega)
   have w1 : wu8 ((a : Int) * 16) = (a : Int) * 16 := wu8_id (by omega)
   rw [bif_true (decide_eq_true (by omega)), gd_pos (by omega), e1, e2, a2, w1]
   rcases Nat.lt_or_ge (2 * j + 1) s.size with hj | hj
   ·obtain ⟨b, b1, b2, b3⟩ := sml_at h2 hj
    have w2 : wu8 ((a : Int) * 16 + (b : Int)) = (a : Int) * 16 + (b : Int) := wu8_id (by omega)
    rw [bif_true (decide_eq_true (by omega)), gd_pos (by omega), b2, w2, Option.bind_some, gd_pos (by omega), rpk_l0 h1 h2 fuel (j + 1) _ (by omega) (by simp; omega), pk_two (k := j) (by rw [B_len]; omega), a3, b3, List.map_cons, List.append_assoc]
    have : Int.ofNat (16 * a + b) = (a : Int) * 16 + (b : Int) := by
     show ((16 * a + b : Nat) : Int) = _
     omega
    rw [this]
    rfl
   ·rw [bif_false (decide_eq_false (by omega)), Option.bind_some, gd_pos (by omega), rpk_l0 h1 h2 fuel (j + 1) _ (by omega) (by simp; omega), List.drop_eq_nil_of_le (i := 2 * (j + 1)) (by rw [B_len]; omega), drop_cons 0 (show 2 * j < (B s).length by rw [B_len]; omega), List.drop_eq_nil_of_le (i := 2 * j + 1) (by rw [B_len]; omega), a3]
    have : Int.ofNat (16 * a) = (a : Int) * 16 := by
     show ((16 * a : Nat) : Int) = _
     omega
    simp only [pk, List.map_cons, List.map_nil, List.append_nil, this]
  ·rw [bif_false (decide_eq_false (by omega)), List.drop_eq_nil_of_le (by rw [B_len]; omega)]
   simp [pk]
theorem rpack_ok {s : ByteArray} (h1 : s.size ≤ 16) (h2 : Sml s) : ref02_Pack.f s = some ⟨pkd s, true⟩ := by
 unfold ref02_Pack.f
 have h := rpk_l0 h1 h2 BIG 0 [wu8 (s.size : Int)] (by have := BIG_ge; omega) (by simp)
 rw [show ((2 * 0 : Nat) : Int) = 0 from rfl, show 2 * 0 = 0 from rfl, List.drop_zero] at h
 rw [good2_ok h1 h2, Option.bind_some, bif_false (c := !true) rfl, h, Option.bind_some]
 congr 2
 apply B_inj
 rw [B_pkd h1 h2, B_strOfNums]
 ·rw [List.map_append, List.map_map, wu8_id (by omega)]
  have e : (pk (B s)).map (Int.toNat ∘ Int.ofNat) = pk (B s) := (List.map_congr_left (fun _ _ => rfl)).trans (List.map_id _)
  rw [e]
  rfl
 ·intro x hx
  rcases List.mem_append.mp hx with hx | hx
  ·simp only [List.mem_singleton] at hx
   rw [hx, wu8_id (by omega)]
   omega
  ·obtain ⟨y, hy, rfl⟩ := List.mem_map.mp hx
   have := pk_lt h2 y hy
   exact ⟨Int.natCast_nonneg _, by show (y : Int) < 256; omega⟩
theorem band_one {x : Nat} (h : x < 65536) : band .i64 (x : Int) 1 = ((x % 2 : Nat) : Int) := by
 unfold band
 rw [show IntKind.bits .i64 = 64 from rfl, show (1 : Int) = ((1 : Nat) : Int) from rfl, ofInt_nat, ofInt_nat, BitVec.toNat_and, BitVec.toNat_ofNat, BitVec.toNat_ofNat, Nat.mod_eq_of_lt (by omega), Nat.mod_eq_of_lt (by omega), Nat.and_one_is_mod]
 exact wrapi64_nat (by omega)
theorem shri64 (x n : Nat) (hn : n ≤ 64) : shr .i64 (x : Int) (n : Int) = ((x / 2 ^ n : Nat) : Int) := by
 unfold shr
 rw [show IntKind.bits .i64 = 64 from rfl, Int.toNat_natCast, Nat.min_eq_left hn]
 have : (2 : Int) ^ n = ((2 ^ n : Nat) : Int) := by simp
 rw [this, Int.fdiv_eq_ediv_of_nonneg _ (Int.natCast_nonneg _)]
 simp
theorem bits_l0 {m : Nat} (hm : m < 65536) : ∀ (n fuel k acc : Nat), n + k = 16 → n < fuel → acc ≤ k → ref09_Bits.l0 (m : Int) fuel ((acc : Int), (k : Int)) = some ((acc + popc n (m / 2 ^ k) : Nat) : Int)
 | n, 0, k, acc, _, h, _ => by omega
 | 0, fuel + 1, k, acc, hk, _, _ => by
  rw [ref09_Bits.l0, bif_false (decide_eq_false (by omega))]
  rfl
 | n + 1, fuel + 1, k, acc, hk, hf, ha => by
  have hx : m / 2 ^ k < 65536 := Nat.lt_of_le_of_lt (Nat.div_le_self _ _) hm
  have e : w64 ((acc : Int) + ((m / 2 ^ k % 2 : Nat) : Int)) = ((acc + m / 2 ^ k % 2 : Nat) : Int) := w64_nat (by simp) (by omega)
  rw [ref09_Bits.l0, bif_true (decide_eq_true (by omega)), wu64_id (x := (k : Int)) (by omega), gd_pos (by omega), shri64 m k (by omega), band_one hx, e, w64_nat (x := (k : Int) + 1) (k := k + 1) (by simp) (by omega), bits_l0 hm n fuel (k + 1) _ (by omega) (by omega) (by omega), popc, Nat.div_div_eq_div_mul, ← Nat.pow_succ, Nat.add_assoc]
theorem bits_ok {m : Nat} (hm : m < 65536) : ref09_Bits.f (m : Int) = some ((popc 16 m : Nat) : Int) := by
 unfold ref09_Bits.f
 have h := bits_l0 hm 16 BIG 0 0 rfl (by have := BIG_ge; omega) (Nat.le_refl _)
 rw [show ((0 : Nat) : Int) = 0 from rfl, Nat.pow_zero, Nat.div_one, Nat.zero_add] at h
 rw [h]
 rfl
theorem rgood_l0 {i : Item} (h : Fit i) : ∀ (fuel j : Nat), i.hashes_.length - j < fuel → ref09_Good.l0 i fuel (j : Int) = some (.inl ())
 | 0, j, hf => by omega
 | fuel + 1, j, hf => by
  have hfew := h.few
  rw [ref09_Good.l0]
  rcases Nat.lt_or_ge j i.hashes_.length with hj | hj
  ·have hm : (gt i.hashes_ (j : Int)).size = 32 := by
    apply h.hsh
    rw [gt_nat, List.getD_eq_getElem?_getD, List.getElem?_eq_getElem hj]
    exact List.getElem_mem hj
   rw [bif_true (decide_eq_true (by omega)), gd_pos (by omega), hm, bif_false (by decide), w64_nat (x := (j : Int) + 1) (k := j + 1) (by simp) (by omega)]
   exact rgood_l0 h fuel (j + 1) (by omega)
  ·rw [bif_false (decide_eq_false (by omega))]
theorem no_mask {i : Item} (h : Fit i) (k : i.mask_ = 0) : i.hashes_ = [] := by
 obtain ⟨m, h1, h2, h3⟩ := h.msk
 have : m = 0 := by omega
 subst this
 exact List.length_eq_zero_iff.mp (by rw [← h3]; rfl)
theorem one_mask {i : Item} (h : Fit i) (k : i.mask_ = 1) : i.hashes_.length = 1 := by
 obtain ⟨m, h1, h2, h3⟩ := h.msk
 have : m = 1 := by omega
 subst this
 rw [← h3]
 rfl
theorem rgood_item {i : Item} (h : Fit i) : ref09_Good.f i = some true := by
 unfold ref09_Good.f
 have hfew := h.few
 have hv := h.val
 have h0 := rgood_l0 h BIG 0 (by have := BIG_ge; omega)
 rw [show ((0 : Nat) : Int) = 0 from rfl] at h0
 rw [h0]
 simp only [Option.bind_some]
 have e : (bif !i.has_ then some (!(seq_ i.value_ (⟨#[]⟩ : ByteArray))) else some false) = some false := by
  cases hh : i.has_
  ·rw [h.noval hh, seq_self]
   rfl
  ·rfl
 rw [bif_false (c := decide ((i.value_.size : Int) > 16)) (decide_eq_false (by omega)), e, Option.bind_some, bif_false rfl, good2_ok h.path h.sml]
 rcases h.kind with ⟨k1, k2, k3⟩ | ⟨k1, k2, k3, k4⟩ | ⟨k1, k2, k3⟩
 ·rw [k1, k2, k3, no_mask h k3]
  rfl
 ·have := one_mask h k4
  rw [k1, k2, k4, this, bif_false (c := (2 : Int) == 1) rfl, bif_true (c := (2 : Int) == 2) rfl, Option.bind_some, bif_true rfl, bif_true (decide_eq_true (by omega))]
  rfl
 ·obtain ⟨m, h1, h2, h3⟩ := h.msk
  have e1 : w64 ((i.hashes_.length : Int) + 1) = ((i.hashes_.length + 1 : Nat) : Int) := w64_nat (by simp) (by omega)
  have e87 : ∃ n : Int, (bif i.has_ then some ((i.hashes_.length + 1 : Nat) : Int) else some (i.hashes_.length : Int)) = some n ∧ 2 ≤ n := by
   cases hh : i.has_
   ·refine ⟨_, rfl, ?_⟩
    rcases k3 with k3 | ⟨k3, k4⟩
    ·omega
    ·rw [hh] at k3
     cases k3
   ·exact ⟨_, rfl, by omega⟩
  obtain ⟨n, e2, e3⟩ := e87
  rw [k1, k2, seq_self, bif_false (c := (3 : Int) == 1) rfl, bif_false (c := (3 : Int) == 2) rfl, bif_true (c := (3 : Int) == 3) rfl, h1, bits_ok h2, h3, e1, e2, Option.bind_some, bif_true (c := true) rfl, bif_true (decide_eq_true (by omega)), bif_true (decide_eq_true (by omega)), Option.bind_some, bif_true (by simp), decide_eq_true (by omega)]
  rfl
theorem jn_cons (x : ByteArray) (hs : List ByteArray) : jn (x :: hs) = x ++ jn hs := by
 apply B_inj
 rw [B_append]
 unfold B
 rw [jn_list, jn_list]
 simp
theorem jn_nil : jn [] = ⟨#[]⟩ := rfl
theorem apnil (x : ByteArray) : x ++ (⟨#[]⟩ : ByteArray) = x := B_inj (by rw [B_append, B_empty, List.append_nil])
theorem app_ass (x y z : ByteArray) : x ++ y ++ z = x ++ (y ++ z) := B_inj (by simp only [B_append, List.append_assoc])
theorem renc_l0 {i : Item} (h : Fit i) : ∀ (fuel j : Nat) (acc : ByteArray), i.hashes_.length - j < fuel → acc.size ≤ 1000 + 32 * j → ref09_Encode.l0 i fuel (acc, (j : Int)) = some (acc ++ jn (i.hashes_.drop j))
 | 0, j, acc, hf, _ => by omega
 | fuel + 1, j, acc, hf, ha => by
  have hfew := h.few
  rw [ref09_Encode.l0]
  rcases Nat.lt_or_ge j i.hashes_.length with hj | hj
  ·have hm : (gt i.hashes_ (j : Int)).size = 32 := by
    apply h.hsh
    rw [gt_nat, List.getD_eq_getElem?_getD, List.getElem?_eq_getElem hj]
    exact List.getElem_mem hj
   rw [bif_true (decide_eq_true (by omega)), gd_pos (by omega), gd_pos (by omega), w64_nat (x := (j : Int) + 1) (k := j + 1) (by simp) (by omega), renc_l0 h fuel (j + 1) _ (by omega) (by rw [app_size]; omega), drop_cons default hj, jn_cons, app_ass]
   rfl
  ·rw [bif_false (decide_eq_false (by omega)), List.drop_eq_nil_of_le hj, jn_nil, apnil]
theorem one_byte (x : Int) : strOfNums [1, x] = (⟨#[1]⟩ : ByteArray) ++ strOfNums [x] := rfl
theorem renc_ok {i : Item} (h : Fit i) : ref09_Encode.f i = some (enc i) := by
 unfold ref09_Encode.f
 have hfew := h.few
 have hv := h.val
 have hp := (pack_ok h.path h.sml).2
 have hpp := h.path
 have hb := BIG_ge
 have fin : ∀ y : ByteArray, y.size ≤ 1000 → ((ref09_Encode.l0 i BIG (y, 0)).bind fun y304 => some y304) = some (y ++ jn i.hashes_) := fun y hy => by
  have := renc_l0 h BIG 0 y (by omega) (by omega)
  rw [show ((0 : Nat) : Int) = 0 from rfl, List.drop_zero] at this
  rw [this]
  rfl
 have s0 : (⟨#[0]⟩ : ByteArray).size = 1 := rfl
 have s1 : (⟨#[1]⟩ : ByteArray).size = 1 := rfl
 rw [rgood_item h, Option.bind_some, bif_false (c := !true) rfl]
 unfold enc
 rcases h.kind with ⟨k1, k2, k3⟩ | ⟨k1, k2, k3, k4⟩ | ⟨k1, k2, k3⟩
 ·rw [k1, bif_false (c := (1 : Int) == 3) rfl, rpack_ok h.path h.sml, Option.bind_some, if_pos rfl]
  simp only
  rw [gd_pos (by rw [strOfNums_size, hp]; simp; omega), bif_true (c := (1 : Int) == 1) rfl, gd_pos (by rw [strOfNums_size]; simp; omega), gd_pos (by simp only [app_size, strOfNums_size, hp, List.length_cons, List.length_nil]; omega), Option.bind_some, fin _ (by simp only [app_size, strOfNums_size, hp, List.length_cons, List.length_nil]; omega), no_mask h k3, jn_nil, apnil]
  rfl
 ·rw [k1, bif_false (c := (2 : Int) == 3) rfl, rpack_ok h.path h.sml, Option.bind_some, if_neg (by decide), if_pos rfl]
  simp only
  rw [gd_pos (by rw [strOfNums_size, hp]; simp; omega), bif_false (c := (2 : Int) == 1) rfl, Option.bind_some, fin _ (by simp only [app_size, strOfNums_size, hp, List.length_cons, List.length_nil]; omega)]
 ·rw [k1, bif_true (c := (3 : Int) == 3) rfl, if_neg (by decide), if_neg (by decide), gd_pos (by rw [strOfNums_size, strOfNums_size]; simp)]
  cases hh : i.has_
  ·rw [bif_false rfl, if_neg (by simp), gd_pos (by simp only [app_size, strOfNums_size, s0, List.length_cons, List.length_nil]; omega), Option.bind_some, fin _ (by simp only [app_size, strOfNums_size, s0, List.length_cons, List.length_nil]; omega)]
  ·rw [bif_true rfl, if_pos rfl, gd_pos (by rw [strOfNums_size]; simp; omega), gd_pos (by simp only [app_size, strOfNums_size, List.length_cons, List.length_nil]; omega), Option.bind_some, fin _ (by simp only [app_size, strOfNums_size, List.length_cons, List.length_nil]; omega), one_byte]
   unfold vl
   simp only [app_ass]
end Go.Lf
