/- The document's builder lays out the trie of the pairs, too. -/
import Derived.Test.YtckhmgglgbnaaaaDoorM3
set_option linter.unusedVariables false
set_option linter.unusedSimpArgs false
namespace Go.Lf
open Go
variable {n : List ByteArray} {l : List Pair}
theorem add_l1 {t d i : Nat} (ht : t ≤ n.length) (hn : n.length < 1000000) (hi : i < t) (hl : ∀ j, i ≤ j → j < t → d < (nb n j).length) : ∀ (fuel j : Nat), t - j < fuel → i ≤ j → j ≤ t → ref10_maker_add.l1 n t d i fuel j = some ((runF (fun j => byteAt n j d == byteAt n i d) (t - j) j : Nat) : Int)
  | 0, j, h, _, _ => by omega
  | fuel + 1, j, h, hij, hjt => by
    rw [ref10_maker_add.l1]
    rcases Nat.lt_or_ge j t with hj | hj
    · have h1 := hl j hij hj
      have h0 := hl i (Nat.le_refl _) hi
      rw [bif_true (by simp; omega), gd_pos (by constructor <;> omega), gd_pos (by rw [tx_gt, size_nb]; constructor <;> omega), gd_pos (by constructor <;> omega), gd_pos (by rw [tx_gt, size_nb]; constructor <;> omega)]
      simp only [Option.bind_some, tx_gt, bt_byte, nat_beq]
      rw [show t - j = (t - (j + 1)) + 1 by omega, runF]
      cases hc : (byteAt n j d == byteAt n i d)
      · simp
      · rw [bif_true rfl, w64_nat (k := j + 1) (by simp) (by omega), add_l1 ht hn hi hl fuel (j + 1) (by omega) (by omega) (by omega)]
        simp
    · rw [bif_false (by simp; omega)]
      have : t - j = 0 := by omega
      simp [this, runF]
theorem common2_l0 {x y : ByteArray} (hx : x.size < 1000000) : ∀ (fuel i : Nat), x.size - i < fuel → ref02_Common.l0 x y fuel i = some ((i + comm ((B x).drop i) ((B y).drop i) : Nat) : Int)
  | 0, i, h => by omega
  | fuel + 1, i, h => by
    rw [ref02_Common.l0]
    by_cases hi : i < x.size ∧ i < y.size
    · rw [bif_true (by simp; omega), bif_true (by simp; omega), gd_pos (by omega), gd_pos (by omega)]
      simp only [Option.bind_some, bt_lt, nat_beq]
      rw [comm_drop (by rw [B_len]; omega) (by rw [B_len]; omega)]
      cases hc : ((B x).getD i 0 == (B y).getD i 0)
      · rw [if_neg (by simpa using hc)]
        simp
      · rw [if_pos (by simpa using hc), bif_true rfl, w64_nat (k := i + 1) (by simp) (by omega), common2_l0 hx fuel (i + 1) (by omega)]
        congr 2
        omega
    · have : (bif decide ((i : Int) < (x.size : Int)) then
          bif decide ((i : Int) < (y.size : Int)) then
            gd (0 ≤ (i : Int) ∧ (i : Int) < (x.size : Int)) <|
            gd (0 ≤ (i : Int) ∧ (i : Int) < (y.size : Int)) <|
            some ((bt x i) == (bt y i))
          else
            some false
        else
          some false) = some false := by
        by_cases h1 : i < x.size
        · rw [bif_true (by simp; omega), bif_false (by simp; omega)]
        · rw [bif_false (by simp; omega)]
      rw [this]
      simp only [Option.bind_some]
      rw [bif_false rfl, comm_end (by rw [B_len, B_len]; omega)]
      simp
theorem common2_ok {x y : ByteArray} (hx : x.size < 1000000) : ref02_Common.f x y = some ((comm (B x) (B y) : Nat) : Int) := by
  unfold ref02_Common.f
  have h : ref02_Common.l0 x y BIG 0 = some ((0 + comm ((B x).drop 0) ((B y).drop 0) : Nat) : Int) := common2_l0 (y := y) hx BIG 0 (by have := BIG_ge; omega)
  rw [h]
  simp
theorem gt_end {α : Type} [Inhabited α] (tt r : List α) (x : α) : gt (tt ++ x :: r) (tt.length : Int) = x := by simp [gt]
/-- What leads to a text's place d. -/
def pre (n : List ByteArray) (i d : Nat) : ByteArray := sub (tx n i) 0 (d : Int)
theorem B_pre (n : List ByteArray) (i d : Nat) : B (pre n i d) = (nb n i).take d := by simp [pre, B_sub, nb]
theorem B_one (n : List ByteArray) (i d : Nat) (h : byteAt n i d < 256) : B (strOfNums [((byteAt n i d : Nat) : Int)]) = [byteAt n i d] := by
  rw [B_strOfNums (by simp; omega)]
  simp
theorem pre_step {f i d : Nat} (hs : (nb n i).take d = (nb n f).take d) (hl : d < (nb n i).length) (h : byteAt n i d < 256) : pre n f d ++ strOfNums [((byteAt n i d : Nat) : Int)] = pre n i (d + 1) := by
  apply B_inj
  rw [B_append, B_pre, B_pre, B_one n i d h, List.take_add_one, hs, List.getElem?_eq_getElem hl]
  simp [byteAt, List.getD_eq_getElem?_getD, List.getElem?_eq_getElem hl]
theorem add_l0 (hI : In n l) {f t d k : Nat} (hR : Rg n f t d) {tt : List Node} {lab : Lab} {a0t : List Node} (ha0 : a0t.length = tt.length)
    {rc : List Pair → List ByteArray → List Node → List ByteArray → Int → Int → Int → Option (Int × List Node × List ByteArray)}
    (hrec : ∀ (i j : Nat) (tt : List Node) (pp : List ByteArray), Rg n i j (d + 1) → tt.length + (k + 1) * (j - i) ≤ 1000000000 → pp.length = tt.length →
      rc l n tt pp i j ((d + 1 : Nat) : Int) = some ((tt.length : Int), tt ++ (mk n l k i j (d + 1)).flat tt.length, pp ++ (mk n l k i j (d + 1)).paths (pre n i (d + 1)))) :
    ∀ (m i fuel : Nat) (rest : List Node) (pp : List ByteArray) (v : V16), t - i ≤ m → t - i < fuel → (f < i ∨ d < (nb n f).length ∧ f ≤ i) → i ≤ t → tt.length + 1 + rest.length + (k + 1) * (t - i) ≤ 1000000000 → pp.length = tt.length + 1 + rest.length →
      ref10_maker_add.l0 l n a0t t d rc fuel (pp, tt ++ lab.node v :: rest, i) = some (pp ++ (mkKs n (fun i j => mk n l k i j (d + 1)) d t m i).paths (pre n f d) true, tt ++ lab.node ((mkKs n (fun i j => mk n l k i j (d + 1)) d t m i).vec (tt.length + 1 + rest.length) v) :: (rest ++ (mkKs n (fun i j => mk n l k i j (d + 1)) d t m i).flat (tt.length + 1 + rest.length)))
  | m, i, 0, rest, pp, v, hm, hfu, hi, hit, hsz, hpl => by omega
  | m, i, fuel + 1, rest, pp, v, hm, hfu, hi, hit, hsz, hpl => by
    have hle := hR.le
    have hfew := hI.few
    rw [ref10_maker_add.l0]
    rcases Nat.lt_or_ge i t with ht | ht
    · obtain ⟨m, rfl⟩ : ∃ m', m = m' + 1 := ⟨m - 1, by omega⟩
      have h1 := hR.go hI.srt hi ht
      have hs := hI.short i (by omega)
      have hb := hI.nib i (by omega) d
      have hgt := run_gt (n := n) (d := d) ht
      have hrl := run_le (n := n) (d := d) (Nat.le_of_lt ht)
      rw [bif_true (by simp; omega)]
      rw [add_l1 hle hfew ht (fun j h2 h3 => hR.go hI.srt (i := j) (by omega) h3) BIG i (by have := BIG_ge; omega) (Nat.le_refl _) hit]
      rw [Option.bind_some]
      rw [w64_nat (x := (d : Int) + 1) (k := d + 1) (by simp) (by omega)]
      have e : ((runF (fun j => byteAt n j d == byteAt n i d) (t - i) i : Nat) : Int) = (run n d t i : Nat) := rfl
      have hmul : (k + 1) * (t - i) = (k + 1) * (run n d t i - i) + (k + 1) * (t - run n d t i) := by rw [← Nat.mul_add]; congr 1; omega
      rw [e, hrec i _ (tt ++ lab.node v :: rest) pp (hR.run hI.srt hi ht) (by simp; omega) (by simp; omega)]
      simp only [Option.bind_some]
      rw [gd_pos (by constructor <;> omega), gd_pos (by rw [tx_gt, size_nb]; constructor <;> omega), gd_pos (by simp; omega), gd_pos (by rw [bt_tx]; constructor <;> omega)]
      have hsz2 := mk_sz (n := n) (l := l) k i (run n d t i) (d + 1) hgt
      simp only [List.append_assoc, List.cons_append, ha0, set_end, gt_end, bt_tx]
      have hn : ({ lab.node v with kids_ := vset (lab.node v).kids_ ((byteAt n i d : Nat) : Int) ((tt ++ lab.node v :: rest).length : Int) } : Node) = lab.node (vset v ((byteAt n i d : Nat) : Int) ((tt.length + 1 + rest.length : Nat) : Int)) := by
        simp [Lab.node]; congr 1; omega
      rw [hn]
      have hl0 : (tt ++ lab.node v :: rest).length = tt.length + 1 + rest.length := by simp; omega
      rw [hl0]
      rw [add_l0 hI hR ha0 hrec m (run n d t i) fuel _ _ _ (by omega) (by omega) (by omega) hrl (by simp only [List.length_append, T.flat_len]; omega) (by simp only [List.length_append, T.flat_len, T.paths_len]; omega)]
      rw [mkKs, if_pos ht]
      simp only [Ks.flat, Ks.vec, Ks.paths, List.length_append, T.flat_len, List.append_assoc, if_true, Nat.add_assoc]
      rw [pre_step (by rw [hR.same i (by omega) ht]) h1 (by omega)]
    · rw [bif_false (by simp; omega)]
      have : mkKs n (fun i j => mk n l k i j (d + 1)) d t m i = .nil := by
        cases m with
        | zero => rfl
        | succ m => rw [mkKs, if_neg (by omega)]
      rw [this]
      simp [Ks.flat, Ks.vec, Ks.paths]

theorem set_last {α : Type} (tt : List α) (x y : α) : (tt ++ [x]).set ((tt.length : Int)).toNat y = tt ++ [y] := by simp
theorem gt_last {α : Type} [Inhabited α] (tt : List α) (x : α) : gt (tt ++ [x]) (tt.length : Int) = x := by simp [gt]
theorem add_ok (hI : In n l) : ∀ (k f t d kk : Nat) (tt : List Node) (pp : List ByteArray), Rg n f t d → 17 ≤ d + k → k ≤ kk → tt.length + (k + 1) * (t - f) ≤ 1000000000 → pp.length = tt.length →
    ref10_maker_add.f kk l n tt pp f t d = some ((tt.length : Int), tt ++ (mk n l k f t d).flat tt.length, pp ++ (mk n l k f t d).paths (pre n f d))
  | 0, f, t, d, kk, tt, pp, hR, hd, _, _, _ => by
    have := hI.short f (by have := hR.lt; have := hR.le; omega)
    have := hR.long f (Nat.le_refl _) hR.lt
    omega
  | k + 1, f, t, d, 0, tt, pp, hR, hd, hk, _, _ => by omega
  | k + 1, f, t, d, kk + 1, tt, pp, hR, hd, hk, hsz, hpl => by
    have hlt := hR.lt
    have hle := hR.le
    have hfew := hI.few
    have hlen := hI.len
    have hsh := hI.short f (by omega)
    have hsh2 := hI.short (t - 1) (by omega)
    have hlo := hR.long f (Nat.le_refl _) hlt
    have hlo2 := hR.long (t - 1) (by omega) (by omega)
    rw [ref10_maker_add.f]
    have hmul : (k + 1 + 1) * (t - f) = (k + 1) * (t - f) + (t - f) := by rw [Nat.add_mul, Nat.one_mul]
    have g1 : 0 ≤ (f : Int) ∧ (f : Int) < (n.length : Int) := by constructor <;> omega
    have g2 : 0 ≤ (d : Int) ∧ (d : Int) ≤ ((gt n (f : Int)).size : Int) := by rw [tx_gt, size_nb]; constructor <;> omega
    have g3 : 0 ≤ (f : Int) ∧ (f : Int) < (l.length : Int) := by constructor <;> omega
    rw [gd_pos (by omega), gd_pos g1, gd_pos g2, gd_pos (by omega)]
    rw [w64_nat (x := (f : Int) + 1) (k := f + 1) (by simp) (by omega), nat_beq]
    by_cases h1 : t = f + 1
    · rw [bif_true (by simpa using h1), gd_pos g1, gd_pos g2, gd_pos g3, gd_pos (by simp; omega), set_last, mk, if_pos h1]
      simp [T.flat, T.paths, Ks.paths, Ks.flat, Ks.vec, Lab.node, tx_gt, gt_nat, val, v0, tx, pre]
    · rw [bif_false (by simpa using h1), gd_pos g1, gd_pos g2, show ((t : Int) - 1) = ((t - 1 : Nat) : Int) by omega, w64_nat (k := t - 1) rfl (by omega), gd_pos (by constructor <;> omega), gd_pos (by rw [tx_gt, size_nb]; constructor <;> omega)]
      rw [common2_ok (by rw [tx_gt, sub_size _ _ _ (Nat.le_refl _), size_nb]; omega)]
      rw [Option.bind_some, mk, if_neg h1]
      have hcl := comm_le_left ((nb n f).drop d) ((nb n (t - 1)).drop d)
      simp only [List.length_drop] at hcl
      have e1 : comm (B (sub (gt n (f : Int)) (d : Int) ((gt n (f : Int)).size : Int))) (B (sub (gt n ((t - 1 : Nat) : Int)) (d : Int) ((gt n ((t - 1 : Nat) : Int)).size : Int))) = comm ((nb n f).drop d) ((nb n (t - 1)).drop d) := by rw [tx_gt, tx_gt, sub_tail, sub_tail]; rfl
      rw [e1]
      by_cases h2 : 0 < comm ((nb n f).drop d) ((nb n (t - 1)).drop d)
      · have hR2 := hR.comm hI.srt
        generalize hc : comm ((nb n f).drop d) ((nb n (t - 1)).drop d) = c at h2 hR2 hcl ⊢
        rw [bif_true (by simp; omega), gd_pos g1, w64_nat (x := (d : Int) + (c : Int)) (k := d + c) (by simp) (by omega), gd_pos (by rw [tx_gt, size_nb]; refine ⟨?_, ?_, ?_⟩ <;> omega), gd_pos (by simp; omega), set_last]
        rw [add_ok hI k f t (d + c) kk _ _ hR2 (by omega) (by omega) (by simp; omega) (by simp; omega)]
        simp only [Option.bind_some]
        rw [gd_pos (by simp; omega), gd_pos (by omega), if_pos h2]
        simp only [List.append_assoc, List.singleton_append, set_end, gt_end, List.length_append, List.length_singleton, tx_gt]
        have e2 : pre n f d ++ sub (tx n f) (d : Int) ((d + c : Nat) : Int) = pre n f (d + c) := by
          apply B_inj
          rw [B_append, B_pre, B_pre, B_sub]
          simp only [Int.toNat_natCast, nb]
          rw [show (B (tx n f)).take d = ((B (tx n f)).take (d + c)).take d by rw [List.take_take, Nat.min_eq_left (by omega)], List.take_append_drop]
        simp only [T.flat, T.paths, Ks.paths, Ks.flat, Ks.vec, Lab.node, List.append_nil, v0, e2, List.cons_append, List.nil_append]
        rfl
      · rw [bif_false (by simp; omega), if_neg h2, gd_pos (by simp; omega)]
        have hrec : ∀ (i j : Nat) (tt : List Node) (pp : List ByteArray), Rg n i j (d + 1) → tt.length + (k + 1) * (j - i) ≤ 1000000000 → pp.length = tt.length → ref10_maker_add.f kk l n tt pp i j ((d + 1 : Nat) : Int) = some ((tt.length : Int), tt ++ (mk n l k i j (d + 1)).flat tt.length, pp ++ (mk n l k i j (d + 1)).paths (pre n i (d + 1))) :=
          fun i j tt pp h3 h4 h5 => add_ok hI k i j (d + 1) kk tt pp h3 (by omega) (by omega) h4 h5
        have e3 : (((gt n (f : Int)).size : Int) == (d : Int)) = ((nb n f).length == d) := by rw [tx_gt, size_nb, nat_beq]
        rw [gd_pos g1, e3]
        simp only [set_last, gt_last]
        have e4 : sub (gt n (f : Int)) 0 (d : Int) = pre n f d := rfl
        have e5 : pre n f d ++ (⟨#[]⟩ : ByteArray) = pre n f d := by
          apply B_inj
          rw [B_append, B_empty, List.append_nil]
        by_cases h3 : (nb n f).length = d
        · rw [bif_true (by simpa using h3), gd_pos g3, gd_pos (by simp; omega), gd_pos (by simp; omega)]
          simp only [Option.bind_some]
          have hm1 : (k + 1) * (t - (f + 1)) ≤ (k + 1) * (t - f) := Nat.mul_le_mul_left _ (by omega)
          have := add_l0 hI hR (tt := tt) (lab := ⟨3, ⟨#[]⟩, true, val l f⟩) (a0t := tt) rfl hrec (t - f) (f + 1) BIG [] (pp ++ [pre n f d]) v0 (by omega) (by have := BIG_ge; omega) (by omega) (by omega) (by simp; omega) (by simp; omega)
          simp only [Lab.node, val, v0, List.length_nil, Nat.add_zero, List.nil_append] at this
          rw [e4]
          simp only [gt_nat]
          rw [this]
          simp only [Option.bind_some]
          rw [if_pos h3]
          simp only [T.flat, T.paths, Lab.node, val, v0, List.append_assoc, List.singleton_append, e5]
          simp
        · rw [bif_false (by simpa using h3)]
          simp only [Option.bind_some]
          have := add_l0 hI hR (tt := tt) (lab := ⟨3, ⟨#[]⟩, false, ⟨#[]⟩⟩) (a0t := tt) rfl hrec (t - f) f BIG [] (pp ++ [pre n f d]) v0 (by omega) (by have := BIG_ge; omega) (by omega) (by omega) (by simp; omega) (by simp; omega)
          simp only [Lab.node, val, v0, List.length_nil, Nat.add_zero, List.nil_append] at this
          rw [e4]
          rw [this]
          simp only [Option.bind_some]
          rw [if_neg h3]
          simp only [T.flat, T.paths, Lab.node, val, v0, List.append_assoc, List.singleton_append, e5]
          simp
end Go.Lf
