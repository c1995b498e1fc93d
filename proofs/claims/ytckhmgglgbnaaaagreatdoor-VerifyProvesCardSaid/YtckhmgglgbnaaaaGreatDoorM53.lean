/- An Item's text is read as it. -/
import Derived.Test.YtckhmgglgbnaaaaGreatDoorM52
set_option linter.unusedVariables false
set_option linter.unusedSimpArgs false
namespace Go.Lf
open Go
theorem take_ok (s : ByteArray) (n : Nat) : ∃ x y, node_reader_take.f s (n : Int) = some (x, y) ∧ B x = (B s).take n ∧ B y = (B s).drop n := by
 unfold node_reader_take.f
 have e : (if (s.size : Int) < (n : Int) then (s.size : Int) else (n : Int)) = ((min s.size n : Nat) : Int) := by split <;> omega
 rw [e, gd_pos (by omega), gd_pos (by omega)]
 refine ⟨_, _, rfl, ?_, ?_⟩
 ·rw [B_sub, Int.toNat_natCast]
  simp only [Int.toNat_zero, List.drop_zero]
  rcases Nat.le_total s.size n with h | h
  ·rw [Nat.min_eq_left h, List.take_of_length_le (by rw [B_len]; omega), List.take_of_length_le (by rw [B_len]; omega)]
  ·rw [Nat.min_eq_right h]
 ·rw [B_sub, Int.toNat_natCast, Int.toNat_natCast, List.take_of_length_le (by rw [B_len]; omega)]
  rcases Nat.le_total s.size n with h | h
  ·rw [Nat.min_eq_left h, List.drop_eq_nil_of_le (by rw [B_len]; omega), List.drop_eq_nil_of_le (by rw [B_len]; omega)]
  ·rw [Nat.min_eq_right h]
theorem take_pre {s : ByteArray} {x : List Nat} {r : List Nat} (h : B s = x ++ r) : ∃ a b, node_reader_take.f s (x.length : Int) = some (a, b) ∧ B a = x ∧ B b = r := by
 obtain ⟨a, b, h1, h2, h3⟩ := take_ok s x.length
 exact ⟨a, b, h1, by rw [h2, h, List.take_left], by rw [h3, h, List.drop_left]⟩
theorem num_ok {s : ByteArray} {b : Nat} {r : List Nat} (h : B s = b :: r) (hb : b < 256) : ∃ y, node_reader_number.f s = some ((b : Int), y) ∧ B y = r := by
 obtain ⟨x, y, h1, h2, h3⟩ := take_pre (s := s) (x := [b]) (r := r) h
 have hx : x.size = 1 := by rw [← B_len, h2]; rfl
 refine ⟨y, ?_, h3⟩
 unfold node_reader_number.f
 rw [show ((([b] : List Nat).length : Nat) : Int) = 1 from rfl] at h1
 rw [h1]
 simp only [Option.bind_some]
 have e : bt x 0 = (b : Int) := by
  rw [bt_B, h2]
  rfl
 rw [seq_B, decide_eq_false (fun e => by rw [e] at hx; exact absurd hx (by decide)), bif_true (c := !false) rfl, gd_pos (by omega), e, w64_id (by omega)]
theorem nbl_pk : ∀ {x : List Nat}, (∀ b ∈ x, b < 16) → nbl (pk x) = x ++ (if x.length % 2 = 1 then [0] else [])
 | [], _ => by simp [pk, nbl]
 | [a], h => by
  have := h a (by simp)
  simp only [pk, nbl, List.length_cons, List.length_nil, List.flatMap_cons, List.flatMap_nil]
  rw [show 16 * a / 16 = a by omega, show 16 * a % 16 = 0 by omega]
  rfl
 | a :: b :: x, h => by
  have h1 := h a (by simp)
  have h2 := h b (by simp)
  have ih := nbl_pk (x := x) fun c hc => h c (by simp [hc])
  simp only [nbl] at ih
  simp only [pk, nbl, List.length_cons, List.flatMap_cons]
  rw [show (16 * a + b) / 16 = a by omega, show (16 * a + b) % 16 = b by omega, ih]
  simp only [show (x.length + 1 + 1) % 2 = x.length % 2 by omega]
  rfl
theorem unpack_ok {s p : ByteArray} {r : List Nat} (hp : p.size ≤ 16) (hm : Sml p) (h : B s = p.size :: (pk (B p) ++ r)) : nibble_Unpack.f s = some (p, ((1 + (p.size + 1) / 2 : Nat) : Int), true) := by
 unfold nibble_Unpack.f
 have hpl : (pk (B p)).length = (p.size + 1) / 2 := by rw [pk_len, B_len]
 have hs : s.size = 1 + (p.size + 1) / 2 + r.length := by
  rw [← B_len, h, List.length_cons, List.length_append, hpl]
  omega
 have e0 : bt s 0 = (p.size : Int) := by
  rw [bt_B, h]
  rfl
 have e1 : w64 ((p.size : Int)) = (p.size : Int) := w64_id (by omega)
 have e2 : w64 ((p.size : Int) + 1) = ((p.size + 1 : Nat) : Int) := w64_nat (by simp) (by omega)
 have e3 : w64 (((p.size + 1 : Nat) : Int).tdiv 2) = (((p.size + 1) / 2 : Nat) : Int) := w64_nat (by rw [show (2 : Int) = ((2 : Nat) : Int) from rfl, ← Int.ofNat_tdiv]) (by omega)
 have e4 : w64 (1 + (((p.size + 1) / 2 : Nat) : Int)) = ((1 + (p.size + 1) / 2 : Nat) : Int) := w64_nat (by simp) (by omega)
 rw [seq_B, decide_eq_false (fun e => by rw [e] at hs; have : (⟨#[]⟩ : ByteArray).size = 0 := rfl; omega), bif_false rfl, gd_pos (by omega), e0, e1, Option.bind_some, bif_false (decide_eq_false (by omega)), gd_pos (by omega), e2, e3, e4, bif_false (decide_eq_false (by omega)), gd_pos (by omega)]
 have hb : B (sub s 1 ((1 + (p.size + 1) / 2 : Nat) : Int)) = pk (B p) := by
  rw [B_sub, h, Int.toNat_natCast, show (1 : Int).toNat = 1 from rfl, Nat.add_comm 1, List.take_succ_cons, ← hpl, List.take_left]
  rfl
 have hbs : (sub s 1 ((1 + (p.size + 1) / 2 : Nat) : Int)).size < 1000000 := by rw [← B_len, hb, hpl]; omega
 rw [of_ok hbs, Option.bind_some]
 have hn : B (nib (sub s 1 ((1 + (p.size + 1) / 2 : Nat) : Int))) = B p ++ (if p.size % 2 = 1 then [0] else []) := by
  rw [B_nib, hb, nbl_pk hm, B_len]
 generalize nib (sub s 1 ((1 + (p.size + 1) / 2 : Nat) : Int)) = z at hn
 have hz : z.size = p.size + (if p.size % 2 = 1 then 1 else 0) := by
  rw [← B_len, hn, List.length_append, B_len]
  split <;> rfl
 have e5 : (bif decide ((p.size : Int) < (z.size : Int)) then gd (0 ≤ (p.size : Int) ∧ (p.size : Int) < (z.size : Int)) <| some ((bt z (p.size : Int)) != 0) else some false) = some false := by
  by_cases hc : p.size < z.size
  ·rw [bif_true (decide_eq_true (by omega)), gd_pos (by omega)]
   have : bt z (p.size : Int) = 0 := by
    rw [bt_B, hn, Int.toNat_natCast]
    have hodd : p.size % 2 = 1 := by
     split at hz
     ·assumption
     ·omega
    rw [if_pos hodd, List.getD_eq_getElem?_getD, List.getElem?_append_right (by rw [B_len]; omega), B_len, Nat.sub_self]
    rfl
   rw [this]
   rfl
  ·rw [bif_false (decide_eq_false (by omega))]
 rw [e5, Option.bind_some, bif_false rfl, gd_pos (by omega)]
 congr 2
 apply B_inj
 rw [B_sub, hn, Int.toNat_natCast]
 simp only [Int.toNat_zero, List.drop_zero]
 rw [← B_len p, List.take_left]
theorem path_ok' {s p : ByteArray} {r : List Nat} (hp : p.size ≤ 16) (hm : Sml p) (h : B s = p.size :: (pk (B p) ++ r)) : ∃ y, node_reader_path.f s = some (p, y) ∧ B y = r := by
 have hpl : (pk (B p)).length = (p.size + 1) / 2 := by rw [pk_len, B_len]
 obtain ⟨a, b, h1, h2, h3⟩ := take_pre (s := s) (x := p.size :: pk (B p)) (r := r) h
 rw [show (((p.size :: pk (B p)).length : Nat) : Int) = ((1 + (p.size + 1) / 2 : Nat) : Int) by rw [List.length_cons, hpl]; omega] at h1
 refine ⟨b, ?_, h3⟩
 unfold node_reader_path.f
 rw [unpack_ok hp hm h]
 simp only [Option.bind_some]
 rw [h1]
 rfl
theorem rest_l0 : ∀ (hs : List ByteArray) (fuel : Nat) (acc : List ByteArray) (s : ByteArray), hs.length < fuel → acc.length + hs.length < 1000 → (∀ x ∈ hs, x.size = 32) → B s = B (jn hs) → ∃ y, node_reader_rest.l0 fuel (acc, s) = some (acc ++ hs, y)
 | _, 0, _, _, h, _, _, _ => by omega
 | [], fuel + 1, acc, s, _, _, _, h => by
  have : s = ⟨#[]⟩ := B_inj (by rw [h]; rfl)
  rw [node_reader_rest.l0, this, seq_self, bif_false (c := !true) rfl, List.append_nil]
  exact ⟨_, rfl⟩
 | x :: hs, fuel + 1, acc, s, hf, hl, hx, h => by
  have h32 := hx x (List.mem_cons_self ..)
  rw [jn_cons, B_append] at h
  obtain ⟨a, b, h1, h2, h3⟩ := take_pre h
  rw [B_len, h32, show ((32 : Nat) : Int) = 32 from rfl] at h1
  have hne : s ≠ ⟨#[]⟩ := by
   intro e
   have := congrArg List.length h
   rw [e, B_empty, List.length_append, B_len, h32, List.length_nil] at this
   omega
  obtain ⟨y, hy⟩ := rest_l0 hs fuel (acc ++ [x]) b (by simp at hf; omega) (by simp at hl ⊢; omega) (fun z hz => hx z (List.mem_cons_of_mem _ hz)) h3
  refine ⟨y, ?_⟩
  rw [node_reader_rest.l0, seq_B, decide_eq_false hne, bif_true (c := !false) rfl, h1]
  simp only [Option.bind_some]
  rw [gd_pos (by omega), B_inj h2, hy, List.append_assoc]
  rfl
theorem rest_ok {hs : List ByteArray} {s : ByteArray} (hl : hs.length ≤ 16) (hx : ∀ x ∈ hs, x.size = 32) (h : B s = B (jn hs)) : ∃ y, node_reader_rest.f s = some (hs, y) := by
 unfold node_reader_rest.f
 obtain ⟨y, hy⟩ := rest_l0 hs BIG [] s (by have := BIG_ge; omega) (by simp; omega) hx h
 rw [hy]
 exact ⟨_, rfl⟩
theorem mask_join {m : Nat} (h : m < 65536) : bor .i64 (shl .i64 ((m / 256 : Nat) : Int) 8) ((m % 256 : Nat) : Int) = (m : Int) := by
 have e : shl .i64 ((m / 256 : Nat) : Int) 8 = ((m / 256 * 256 : Nat) : Int) := by
  unfold shl
  rw [show IntKind.bits .i64 = 64 from rfl, show (2 : Int) ^ min (8 : Int).toNat 64 = ((256 : Nat) : Int) by decide, ← Int.natCast_mul]
  exact wrapi64_nat (by omega)
 rw [e]
 unfold bor
 rw [show IntKind.bits .i64 = 64 from rfl, ofInt_nat, ofInt_nat, BitVec.toNat_or, BitVec.toNat_ofNat, BitVec.toNat_ofNat, Nat.mod_eq_of_lt (by omega), Nat.mod_eq_of_lt (by omega)]
 have e2 : m / 256 * 256 ||| m % 256 = m := by
  have := Nat.two_pow_add_eq_or_of_lt (i := 8) (b := m % 256) (by omega) (m / 256)
  rw [Nat.mul_comm, ← show 2 ^ 8 = 256 from rfl, ← this]
  omega
 rw [e2]
 exact wrapi64_nat (by omega)
theorem read_ok {i : Item} (h : Fit i) : node_read.f (enc i) = some i := by
 unfold node_read.f
 have hfew := h.few
 have hv := h.val
 have hpp := h.path
 have vpre : ∀ r : List Nat, i.value_.size :: B i.value_ ++ r = i.value_.size :: (B i.value_ ++ r) := fun _ => rfl
 have hvl : ((B i.value_).length : Int) = (i.value_.size : Int) := by rw [B_len]
 obtain ⟨m, m1, m2, m3⟩ := h.msk
 rcases h.kind with ⟨k1, k2, k3⟩ | ⟨k1, k2, k3, k4⟩ | ⟨k1, k2, k3⟩
 ·obtain ⟨y, h1, h2⟩ := num_ok (enc1 h k1) (by decide)
  obtain ⟨y2, h3, h4⟩ := path_ok' h.path h.sml h2
  obtain ⟨y3, h5, h6⟩ := num_ok h4 (by omega)
  obtain ⟨v, y4, h7, h8, h9⟩ := take_pre (s := y3) (x := B i.value_) (r := []) (by rw [h6, List.append_nil])
  obtain ⟨y5, h10⟩ := rest_ok (hs := []) (s := y4) (by simp) (by simp) (by rw [h9]; rfl)
  rw [hvl] at h7
  rw [h1]
  simp only [Option.bind_some]
  rw [show ((1 : Nat) : Int) = 1 from rfl, bif_true (c := (1 : Int) == 1) rfl, h3]
  simp only [Option.bind_some]
  rw [h5]
  simp only [Option.bind_some]
  rw [h7]
  simp only [Option.bind_some]
  rw [h10]
  simp only [Option.bind_some]
  rw [B_inj h8]
  exact congrArg some (Item.ext' k1.symm rfl k2.symm rfl k3.symm (no_mask h k3).symm)
 ·obtain ⟨y, h1, h2⟩ := num_ok (enc2 h k1) (by decide)
  obtain ⟨y2, h3, h4⟩ := path_ok' h.path h.sml h2
  obtain ⟨y5, h10⟩ := rest_ok hfew h.hsh h4
  rw [h1]
  simp only [Option.bind_some]
  rw [show ((2 : Nat) : Int) = 2 from rfl, bif_false (c := (2 : Int) == 1) rfl, bif_true (c := (2 : Int) == 2) rfl, h3]
  simp only [Option.bind_some]
  rw [h10]
  simp only [Option.bind_some]
  exact congrArg some (Item.ext' k1.symm rfl k2.symm (h.noval k2).symm k4.symm rfl)
 ·have e3 := enc3 h k1 m1 m2
  obtain ⟨y, h1, h2⟩ := num_ok e3 (by decide)
  obtain ⟨y2, h3, h4⟩ := num_ok h2 (by omega)
  obtain ⟨y3, h5, h6⟩ := num_ok h4 (by omega)
  rw [h1]
  simp only [Option.bind_some]
  rw [show ((3 : Nat) : Int) = 3 from rfl, bif_false (c := (3 : Int) == 1) rfl, bif_false (c := (3 : Int) == 2) rfl, bif_true (c := (3 : Int) == 3) rfl, h3]
  simp only [Option.bind_some]
  rw [h5]
  simp only [Option.bind_some]
  rw [mask_join m2]
  by_cases hh : i.has_ = true
  ·rw [if_pos hh] at h6
   obtain ⟨y4, h7, h8⟩ := num_ok (r := i.value_.size :: (B i.value_ ++ B (jn i.hashes_))) (by rw [h6]; rfl) (by decide)
   obtain ⟨y5, h9, h10⟩ := num_ok h8 (by omega)
   obtain ⟨v, y6, h11, h12, h13⟩ := take_pre h10
   obtain ⟨y7, h14⟩ := rest_ok hfew h.hsh h13
   rw [hvl] at h11
   rw [h7]
   simp only [Option.bind_some]
   rw [show ((1 : Nat) : Int) = 1 from rfl, bif_true (c := (1 : Int) == 1) rfl, h9]
   simp only [Option.bind_some]
   rw [h11]
   simp only [Option.bind_some]
   rw [h14]
   simp only [Option.bind_some]
   rw [B_inj h12]
   exact congrArg some (Item.ext' k1.symm k2.symm hh.symm rfl m1.symm rfl)
  ·rw [if_neg hh] at h6
   have hf : i.has_ = false := by simpa using hh
   obtain ⟨y4, h7, h8⟩ := num_ok (r := B (jn i.hashes_)) (by rw [h6]; rfl) (by decide)
   obtain ⟨y7, h14⟩ := rest_ok hfew h.hsh h8
   rw [h7]
   simp only [Option.bind_some]
   rw [show ((0 : Nat) : Int) = 0 from rfl, bif_false (c := (0 : Int) == 1) rfl]
   simp only [Option.bind_some]
   rw [h14]
   simp only [Option.bind_some]
   exact congrArg some (Item.ext' k1.symm k2.symm hf.symm (h.noval hf).symm m1.symm rfl)
theorem decode_ok {i : Item} (h : Fit i) : node_Decode.f (enc i) = some (i, true) := by
 unfold node_Decode.f
 rw [read_ok h, Option.bind_some, encode_ok h]
 simp only [Option.bind_some]
 rw [bif_false (c := !true) rfl, seq_self, Option.bind_some, bif_false (c := !true) rfl]
end Go.Lf
