/- The two builders lay out the trie of the pairs. -/
import Derived.Test.YtckhmgglgbnaaaaDoorM2
import Derived.Test.YtckhmgglgbnaaaaDoorZD
set_option linter.unusedVariables false
set_option linter.unusedSimpArgs false
namespace Go.Lf
open Go

theorem w64_nat {x : Int} {k : Nat} (h : x = (k : Int)) (hk : k < 9223372036854775808) : w64 x = (k : Int) := by rw [h]; exact w64_id (by omega)
theorem bif_true {α : Type} {c : Bool} {x y : α} (h : c = true) : (bif c then x else y) = x := by rw [h]; rfl
theorem bif_false {α : Type} {c : Bool} {x y : α} (h : c = false) : (bif c then x else y) = y := by rw [h]; rfl
theorem tx_gt (n : List ByteArray) (i : Nat) : gt n (i : Int) = tx n i := rfl
theorem size_nb (n : List ByteArray) (i : Nat) : (tx n i).size = (nb n i).length := (B_len _).symm
theorem bt_byte (n : List ByteArray) (i d : Nat) : bt (tx n i) (d : Int) = (byteAt n i d : Int) := by rw [bt_B]; rfl
theorem nat_beq {x y : Nat} : ((x : Int) == (y : Int)) = (x == y) := by rw [Bool.eq_iff_iff]; simp; omega

theorem branch_l1 {n : List ByteArray} {t d i : Nat} (ht : t ≤ n.length) (hn : n.length < 1000000) (hl : ∀ j, i ≤ j → j < t → d < (nb n j).length) : ∀ (fuel j : Nat), t - j < fuel → i ≤ j → j ≤ t → trie_builder_branch.l1 n t d i fuel j = some ((runF (fun j => byteAt n j d == byteAt n i d) (t - j) j : Nat) : Int)
  | 0, j, h, _, _ => by omega
  | fuel + 1, j, h, hij, hjt => by
    rw [trie_builder_branch.l1]
    rcases Nat.lt_or_ge j t with hj | hj
    · have h1 := hl j hij hj
      rw [bif_true (by simp; omega), gd_pos (by constructor <;> omega), gd_pos (by rw [tx_gt, size_nb]; constructor <;> omega)]
      simp only [Option.bind_some, tx_gt, bt_byte, nat_beq]
      rw [show t - j = (t - (j + 1)) + 1 by omega, runF]
      cases hc : (byteAt n j d == byteAt n i d)
      · simp
      · rw [bif_true rfl, w64_nat (k := j + 1) (by simp) (by omega), branch_l1 ht hn hl fuel (j + 1) (by omega) (by omega) (by omega)]
        simp
    · rw [bif_false (by simp; omega)]
      have : t - j = 0 := by omega
      simp [this, runF]

theorem bt_lt (s : ByteArray) (i : Nat) : bt s (i : Int) = (((B s).getD i 0 : Nat) : Int) := bt_B s i
theorem comm_drop {x y : List Nat} {i : Nat} (hx : i < x.length) (hy : i < y.length) : comm (x.drop i) (y.drop i) = if x.getD i 0 = y.getD i 0 then comm (x.drop (i + 1)) (y.drop (i + 1)) + 1 else 0 := by
  rw [List.drop_eq_getElem_cons hx, List.drop_eq_getElem_cons hy, comm]
  simp [List.getD_eq_getElem?_getD, List.getElem?_eq_getElem hx, List.getElem?_eq_getElem hy]
theorem comm_end {x y : List Nat} {i : Nat} (h : x.length ≤ i ∨ y.length ≤ i) : comm (x.drop i) (y.drop i) = 0 := by
  rcases h with h | h
  · rw [List.drop_eq_nil_of_le h]; simp [comm]
  · rw [List.drop_eq_nil_of_le h]
    cases x.drop i <;> simp [comm]
theorem common_l0 {x y : ByteArray} (hx : x.size < 1000000) : ∀ (fuel i : Nat), x.size - i < fuel → nibble_Common.l0 x y fuel i = some ((i + comm ((B x).drop i) ((B y).drop i) : Nat) : Int)
  | 0, i, h => by omega
  | fuel + 1, i, h => by
    rw [nibble_Common.l0]
    by_cases hi : i < x.size ∧ i < y.size
    · rw [bif_true (by simp; split <;> omega), gd_pos (by omega), gd_pos (by omega)]
      simp only [Option.bind_some, bt_lt, nat_beq]
      rw [comm_drop (by rw [B_len]; omega) (by rw [B_len]; omega)]
      cases hc : ((B x).getD i 0 == (B y).getD i 0)
      · rw [if_neg (by simpa using hc)]
        simp
      · rw [if_pos (by simpa using hc), bif_true rfl, w64_nat (k := i + 1) (by simp) (by omega), common_l0 hx fuel (i + 1) (by omega)]
        congr 2
        omega
    · rw [bif_false (by simp; split <;> omega)]
      simp only [Option.bind_some]
      rw [bif_false rfl, comm_end (by rw [B_len, B_len]; omega)]
      simp
theorem common_ok {x y : ByteArray} (hx : x.size < 1000000) : nibble_Common.f x y = some ((comm (B x) (B y) : Nat) : Int) := by
  unfold nibble_Common.f
  have h : nibble_Common.l0 x y BIG 0 = some ((0 + comm ((B x).drop 0) ((B y).drop 0) : Nat) : Int) := common_l0 (y := y) hx BIG 0 (by have := BIG_ge; omega)
  rw [h]
  simp
theorem sub_tail (s : ByteArray) (d : Nat) : B (sub s (d : Int) (s.size : Int)) = (B s).drop d := by
  rw [B_sub]
  simp only [Int.toNat_natCast, List.drop_take]
  rw [List.take_of_length_le]
  simp [B_len]
theorem sub_size (s : ByteArray) (d e : Nat) (h : e ≤ s.size) : (sub s (d : Int) (e : Int)).size = e - d := by
  rw [← B_len, B_sub]
  simp only [Int.toNat_natCast, List.length_drop, List.length_take, B_len]
  omega
/-- What the builders need of the texts. -/
structure In (n : List ByteArray) (l : List Pair) : Prop where
  srt : Srt n
  len : l.length = n.length
  few : n.length < 1000000
  nib : ∀ i, i < n.length → ∀ d, byteAt n i d < 16
  short : ∀ i, i < n.length → (nb n i).length ≤ 16
variable {n : List ByteArray} {l : List Pair}
theorem mkKs_sz {g : Nat → Nat → T} {k d t : Nat} (hg : ∀ i j, i < j → (g i j).sz ≤ k * (j - i)) : ∀ m i, (mkKs n g d t m i).sz ≤ k * (t - i)
  | 0, i => by simp [mkKs, Ks.sz]
  | m + 1, i => by
    unfold mkKs
    split
    · rename_i h
      have h1 := run_gt (n := n) (d := d) h
      have h2 := run_le (n := n) (d := d) (Nat.le_of_lt h)
      have h3 := hg i _ h1
      have h4 := mkKs_sz (d := d) (t := t) hg m (run n d t i)
      simp only [Ks.sz]
      have : k * (t - i) = k * (run n d t i - i) + k * (t - run n d t i) := by rw [← Nat.mul_add]; congr 1; omega
      omega
    · simp [Ks.sz]
theorem mk_sz : ∀ (k f t d : Nat), f < t → (mk n l k f t d).sz ≤ (k + 1) * (t - f)
  | 0, f, t, d, h => by
    have : (mk n l 0 f t d).sz = 1 := rfl
    omega
  | k + 1, f, t, d, h => by
    have e : (k + 1 + 1) * (t - f) = (k + 1) * (t - f) + (t - f) := by rw [Nat.add_mul, Nat.one_mul]
    unfold mk
    split
    · simp [T.sz, Ks.sz]; omega
    · split
      · have := mk_sz k f t (d + comm ((nb n f).drop d) ((nb n (t - 1)).drop d)) h
        simp only [T.sz, Ks.sz]
        omega
      · have hh := fun i j hij => mk_sz k i j (d + 1) hij
        split
        · have := mkKs_sz (n := n) (d := d) (t := t) hh (t - f) (f + 1)
          have h2 : (k + 1) * (t - (f + 1)) ≤ (k + 1) * (t - f) := Nat.mul_le_mul_left _ (by omega)
          simp only [T.sz]
          omega
        · have := mkKs_sz (n := n) (d := d) (t := t) hh (t - f) f
          simp only [T.sz]
          omega

theorem bt_tx (n : List ByteArray) (i d : Nat) : bt (gt n (i : Int)) (d : Int) = (byteAt n i d : Int) := bt_byte n i d
theorem branch_l0 (hI : In n l) {f t d k : Nat} (hR : Rg n f t d) {rc : List Pair → List ByteArray → List Node → Int → Int → Int → Option (Int × List Node)}
    (hrec : ∀ (i j : Nat) (tt : List Node), Rg n i j (d + 1) → tt.length + (k + 1) * (j - i) ≤ 1000000000 → rc l n tt i j ((d + 1 : Nat) : Int) = some ((tt.length : Int), tt ++ (mk n l k i j (d + 1)).flat tt.length)) :
    ∀ (m i fuel : Nat) (tt : List Node) (v : V16), t - i ≤ m → t - i < fuel → (f < i ∨ d < (nb n f).length ∧ f ≤ i) → i ≤ t → tt.length + (k + 1) * (t - i) ≤ 1000000000 →
      trie_builder_branch.l0 l n t d rc fuel (tt, v, i) = some (tt ++ (mkKs n (fun i j => mk n l k i j (d + 1)) d t m i).flat tt.length, (mkKs n (fun i j => mk n l k i j (d + 1)) d t m i).vec tt.length v)
  | m, i, 0, tt, v, hm, hfu, hi, hit, hsz => by omega
  | m, i, fuel + 1, tt, v, hm, hfu, hi, hit, hsz => by
    have hle := hR.le
    have hfew := hI.few
    rw [trie_builder_branch.l0]
    rcases Nat.lt_or_ge i t with ht | ht
    · obtain ⟨m, rfl⟩ : ∃ m', m = m' + 1 := ⟨m - 1, by omega⟩
      have h1 := hR.go hI.srt hi ht
      have hs := hI.short i (by omega)
      have hb := hI.nib i (by omega) d
      have hgt := run_gt (n := n) (d := d) ht
      have hrl := run_le (n := n) (d := d) (Nat.le_of_lt ht)
      rw [bif_true (by simp; omega), gd_pos (by constructor <;> omega), gd_pos (by rw [tx_gt, size_nb]; constructor <;> omega)]
      rw [branch_l1 hle hfew (fun j h2 h3 => hR.go hI.srt (i := j) (by omega) h3) BIG i (by have := BIG_ge; omega) (Nat.le_refl _) hit]
      simp only [Option.bind_some]
      rw [w64_nat (k := d + 1) (by simp) (by omega)]
      have e : ((runF (fun j => byteAt n j d == byteAt n i d) (t - i) i : Nat) : Int) = (run n d t i : Nat) := rfl
      have hmul : (k + 1) * (t - i) = (k + 1) * (run n d t i - i) + (k + 1) * (t - run n d t i) := by rw [← Nat.mul_add]; congr 1; omega
      rw [e, hrec i _ tt (hR.run hI.srt hi ht) (by omega)]
      simp only [Option.bind_some, bt_tx]
      rw [gd_pos (by constructor <;> omega)]
      have hsz2 := mk_sz (n := n) (l := l) k i (run n d t i) (d + 1) hgt
      rw [branch_l0 hI hR hrec m (run n d t i) fuel _ _ (by omega) (by omega) (by omega) hrl (by simp only [List.length_append, T.flat_len]; omega)]
      rw [mkKs, if_pos ht]
      simp only [Ks.flat, Ks.vec, List.length_append, T.flat_len, List.append_assoc]
    · rw [bif_false (by simp; omega)]
      have : mkKs n (fun i j => mk n l k i j (d + 1)) d t m i = .nil := by
        cases m with
        | zero => rfl
        | succ m => rw [mkKs, if_neg (by omega)]
      rw [this]
      simp [Ks.flat, Ks.vec]
theorem set_end {α : Type} (tt r : List α) (x y : α) : (tt ++ x :: r).set ((tt.length : Int)).toNat y = tt ++ y :: r := by
  simp
theorem nodeZ : (⟨0, (⟨#[]⟩ : ByteArray), false, (⟨#[]⟩ : ByteArray), (Vector.replicate 16 0 : Vector Int 16)⟩ : Node) = ⟨0, ⟨#[]⟩, false, ⟨#[]⟩, v0⟩ := rfl
theorem build_ok (hI : In n l) : ∀ (k f t d kk : Nat) (tt : List Node), Rg n f t d → 17 ≤ d + k → 2 * k ≤ kk → tt.length + (k + 1) * (t - f) ≤ 1000000000 →
    trie_builder_build.f kk l n tt f t d = some ((tt.length : Int), tt ++ (mk n l k f t d).flat tt.length)
  | 0, f, t, d, kk, tt, hR, hd, _, _ => by
    have := hI.short f (by have := hR.lt; have := hR.le; omega)
    have := hR.long f (Nat.le_refl _) hR.lt
    omega
  | k + 1, f, t, d, 0, tt, hR, hd, hk, _ => by omega
  | k + 1, f, t, d, 1, tt, hR, hd, hk, _ => by omega
  | k + 1, f, t, d, kk + 2, tt, hR, hd, hk, hsz => by
    have hlt := hR.lt
    have hle := hR.le
    have hfew := hI.few
    have hlen := hI.len
    have hsh := hI.short f (by omega)
    have hsh2 := hI.short (t - 1) (by omega)
    have hlo := hR.long f (Nat.le_refl _) hlt
    have hlo2 := hR.long (t - 1) (by omega) (by omega)
    rw [trie_builder_build.f]
    have hmul : (k + 1 + 1) * (t - f) = (k + 1) * (t - f) + (t - f) := by rw [Nat.add_mul, Nat.one_mul]
    rw [gd_pos (by omega), gd_pos (by constructor <;> omega), gd_pos (by rw [tx_gt, size_nb]; constructor <;> omega)]
    rw [show ((t : Int) - (f : Int)) = ((t - f : Nat) : Int) by omega, w64_nat (k := t - f) rfl (by omega)]
    by_cases h1 : t = f + 1
    · rw [bif_true (by simp; omega), gd_pos (by constructor <;> omega), gd_pos (by simp; omega), set_end, mk, if_pos h1]
      simp [T.flat, Ks.flat, Ks.vec, Lab.node, tx_gt, gt_nat, val, v0, tx]
    · rw [bif_false (by simp; omega), show ((t : Int) - 1) = ((t - 1 : Nat) : Int) by omega, w64_nat (k := t - 1) rfl (by omega), gd_pos (by constructor <;> omega), gd_pos (by rw [tx_gt, size_nb]; constructor <;> omega)]
      rw [common_ok (by rw [tx_gt, sub_size _ _ _ (Nat.le_refl _), size_nb]; omega)]
      rw [Option.bind_some, mk, if_neg h1]
      have hcl := comm_le_left ((nb n f).drop d) ((nb n (t - 1)).drop d)
      simp only [List.length_drop] at hcl
      have e1 : comm (B (sub (gt n (f : Int)) (d : Int) ((gt n (f : Int)).size : Int))) (B (sub (gt n ((t - 1 : Nat) : Int)) (d : Int) ((gt n ((t - 1 : Nat) : Int)).size : Int))) = comm ((nb n f).drop d) ((nb n (t - 1)).drop d) := by rw [tx_gt, tx_gt, sub_tail, sub_tail]; rfl
      rw [e1]
      by_cases h2 : 0 < comm ((nb n f).drop d) ((nb n (t - 1)).drop d)
      · have hR2 := hR.comm hI.srt
        generalize hc : comm ((nb n f).drop d) ((nb n (t - 1)).drop d) = c at h2 hR2 hcl ⊢
        rw [bif_true (by simp; omega), gd_pos (by rw [tx_gt, sub_size _ _ _ (Nat.le_refl _), size_nb]; constructor <;> omega), w64_nat (k := d + c) (by simp) (by omega)]
        rw [build_ok hI k f t (d + c) (kk + 1) _ hR2 (by omega) (by omega) (by simp; omega)]
        simp only [Option.bind_some]
        rw [gd_pos (by omega), gd_pos (by simp; omega), if_pos h2]
        simp only [List.append_assoc, List.singleton_append, set_end, List.length_append, List.length_singleton, tx_gt]
        have e2 : sub (sub (tx n f) (d : Int) ((tx n f).size : Int)) 0 (c : Int) = sub (tx n f) (d : Int) ((d + c : Nat) : Int) := by
          apply B_inj
          rw [B_sub, sub_tail, B_sub]
          simp only [Int.toNat_natCast, Int.toNat_zero, List.drop_zero, List.drop_take]
          congr 1
          omega
        rw [e2]
        simp only [T.flat, Ks.flat, Ks.vec, Lab.node, List.append_nil, v0]
        rfl
      · rw [bif_false (by simp; omega), if_neg h2, trie_builder_branch.f, gd_pos (by constructor <;> omega)]
        have hrec : ∀ (i j : Nat) (tt : List Node), Rg n i j (d + 1) → tt.length + (k + 1) * (j - i) ≤ 1000000000 → trie_builder_build.f kk l n tt i j ((d + 1 : Nat) : Int) = some ((tt.length : Int), tt ++ (mk n l k i j (d + 1)).flat tt.length) :=
          fun i j tt h3 h4 => build_ok hI k i j (d + 1) kk tt h3 (by omega) (by omega) h4
        have e3 : (((gt n (f : Int)).size : Int) == (d : Int)) = ((nb n f).length == d) := by rw [tx_gt, size_nb, nat_beq]
        rw [e3]
        by_cases h3 : (nb n f).length = d
        · rw [bif_true (by simpa using h3), gd_pos (by constructor <;> omega), w64_nat (k := f + 1) (by simp) (by omega)]
          simp only [Option.bind_some]
          have hm1 : (k + 1) * (t - (f + 1)) ≤ (k + 1) * (t - f) := Nat.mul_le_mul_left _ (by omega)
          rw [branch_l0 hI hR hrec (t - f) (f + 1) BIG _ _ (by omega) (by have := BIG_ge; omega) (by omega) (by omega) (by simp; omega)]
          simp only [Option.bind_some]
          rw [gd_pos (by simp; omega), if_pos h3]
          simp only [List.append_assoc, List.singleton_append, set_end, List.length_append, List.length_singleton, T.flat, Lab.node, gt_nat, val, v0]
        · rw [bif_false (by simpa using h3)]
          simp only [Option.bind_some]
          rw [branch_l0 hI hR hrec (t - f) f BIG _ _ (by omega) (by have := BIG_ge; omega) (by omega) (by omega) (by simp; omega)]
          simp only [Option.bind_some]
          rw [gd_pos (by simp; omega), if_neg h3]
          simp only [List.append_assoc, List.singleton_append, set_end, List.length_append, List.length_singleton, T.flat, Lab.node, v0]
end Go.Lf
