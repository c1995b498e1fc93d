/- RootLeaf and RootItems, as plain laws. -/
import Derived.Test.YtckhmgglgbnaaaaDoorM34
import Derived.Test.YtckhmgglgbnaaaaDoorM36
set_option linter.unusedVariables false
set_option linter.unusedSimpArgs false
namespace Go.Lf
open Go
theorem sub_all (s : ByteArray) : sub s 0 (s.size : Int) = s := by
  apply B_inj
  rw [B_sub]
  simp only [Int.toNat_natCast, Int.toNat_zero, List.drop_zero]
  exact List.take_of_length_le (by rw [B_len]; exact Nat.le_refl _)
theorem rootLeaf_plain (wk : law11_wakes.f = some true) (key value : ByteArray) : law11_RootLeaf.f key value = some true := by
  unfold law11_RootLeaf.f
  by_cases c1 : key.size < 1
  · rw [bif_true (decide_eq_true (by omega)), Option.bind_some, bif_true rfl, wk]
    rfl
  · rw [bif_false (c := decide ((key.size : Int) < 1)) (decide_eq_false (by omega))]
    by_cases c2 : 8 < key.size
    · rw [bif_true (decide_eq_true (by omega)), Option.bind_some, bif_true rfl, wk]
      rfl
    · rw [bif_false (c := decide ((key.size : Int) > 8)) (decide_eq_false (by omega)), Option.bind_some]
      by_cases c3 : 16 < value.size
      · rw [bif_true (decide_eq_true (by omega)), wk]
        rfl
      · rw [bif_false (decide_eq_false (by omega))]
        have hm : MayP [(⟨key, value⟩ : Pair)] := fun i hi => by
          have hi : i = 0 := by simpa using hi
          subst hi
          exact ⟨by show 1 ≤ key.size; omega, by show key.size ≤ 8; omega, by show value.size ≤ 16; omega, fun h => by omega⟩
        have hl : ([(⟨key, value⟩ : Pair)] : List Pair).length < 10000 := by simp
        rw [Build2_ok hm (by simp), Option.bind_some, rof_ok hm hl]
        simp only [Option.bind_some]
        have hr : rt [(⟨key, value⟩ : Pair)] = dg (enc ⟨1, nib key, true, value, 0, []⟩) := by
          unfold rt
          rw [if_neg (by simp), T.hsh_item]
          have e : tre [(⟨key, value⟩ : Pair)] = .node ⟨1, sub (nib key) 0 ((nib key).size : Int), true, value⟩ .nil := rfl
          rw [e, sub_all]
          have e2 : (T.node ⟨1, nib key, true, value⟩ .nil).item = ⟨1, nib key, true, value, 0, []⟩ := by
            simp only [T.item, Ks.hshs, Ks.mask]
            rfl
          rw [e2]
        have hn : (nib key).size = 2 * key.size := by rw [← B_len, B_nib, nbl_len, B_len]
        have w : w64 (2 * (key.size : Int)) = ((2 * key.size : Nat) : Int) := w64_nat (by simp) (by omega)
        have he : ((((⟨#[1]⟩ : ByteArray) ++ (strOfNums [wu8 (w64 (2 * (key.size : Int)))])) ++ key) ++ (strOfNums [wu8 (value.size : Int)])) ++ value = enc ⟨1, nib key, true, value, 0, []⟩ := by
          rw [w, ← hn]
          unfold enc
          rw [if_pos rfl]
          unfold pkd vl
          rw [pck_nib]
          apply B_inj
          simp only [B_append, List.append_assoc]
          rfl
        have s1 : (⟨#[1]⟩ : ByteArray).size = 1 := rfl
        rw [gd_pos (by rw [strOfNums_size, s1]; simp), gd_pos (by simp only [app_size, strOfNums_size, s1, List.length_cons, List.length_nil]; omega), gd_pos (by simp only [app_size, strOfNums_size, s1, List.length_cons, List.length_nil]; omega), gd_pos (by simp only [app_size, strOfNums_size, s1, List.length_cons, List.length_nil]; omega), bif_true rfl, he]
        have hsz : (enc ⟨1, nib key, true, value, 0, []⟩).size < 1000000000 := by
          rw [← he]
          simp only [app_size, strOfNums_size, s1, List.length_cons, List.length_nil]
          omega
        rw [(dg_ok hsz).1, Option.bind_some, hr, seq_self, bif_true rfl, wk]
        rfl
theorem shri {M c : Nat} (hc : c < 16) : shr .i64 (M : Int) (wu64 (c : Int)) = ((M / 2 ^ c : Nat) : Int) := by
  have hw : wu64 (c : Int) = (c : Int) := by
    have := wrap64_nat c
    rw [Nat.mod_eq_of_lt (by omega)] at this
    exact this
  rw [hw]
  unfold shr
  have h1 : (IntKind.bits .i64) = 64 := rfl
  rw [h1, Int.toNat_natCast, Nat.min_eq_left (by omega)]
  have : (2 : Int) ^ c = ((2 ^ c : Nat) : Int) := by simp
  rw [this, Int.fdiv_eq_ediv_of_nonneg _ (Int.natCast_nonneg _)]
  simp
theorem bandi_one {x : Nat} (h : x < 65536) : band .i64 (x : Int) 1 = ((x % 2 : Nat) : Int) := by
  unfold band
  have h1 : (IntKind.bits .i64) = 64 := rfl
  rw [h1, show (1 : Int) = ((1 : Nat) : Int) from rfl, ofInt_nat, ofInt_nat, BitVec.toNat_and, BitVec.toNat_ofNat, BitVec.toNat_ofNat, Nat.mod_eq_of_lt (by omega), Nat.mod_eq_of_lt (by decide), Nat.and_one_is_mod]
  exact wrapi64_nat (by omega)
theorem bit_ok {M c : Nat} (hM : M < 65536) (hc : c < 16) : band .i64 (shr .i64 (M : Int) (wu64 (c : Int))) 1 = ((M / 2 ^ c % 2 : Nat) : Int) := by
  rw [shri hc]
  exact bandi_one (Nat.lt_of_le_of_lt (Nat.div_le_self _ _) hM)
theorem at_up : ∀ {ks : Ks} {b m : Nat} {v : V16}, ks.at b v m → ks.up m
  | .nil, _, _, _, _ => trivial
  | .cons c t ks, b, m, v, h => ⟨h.1, h.2.1, at_up h.2.2.2.2⟩
theorem low_bit {low r m : Nat} (h : low < 2 ^ m) : (low + 2 ^ m * r) / 2 ^ m = r := by
  rw [Nat.add_mul_div_left _ _ (Nat.two_pow_pos _), Nat.div_eq_of_lt h, Nat.zero_add]
theorem items_l1 {y : ref10_Both_T} {H : List ByteArray} {i : Nat} {I : Item} {M : Nat} (hi : i < y.t_.length) (hM : I.mask_ = (M : Int)) (hM' : M < 65536) (hh : I.hashes_.length ≤ 16) : ∀ (fuel m : Nat) (ks : Ks) (bk low : Nat) (pre : List ByteArray), 16 - m < fuel → m ≤ 16 → ks.at bk (gt y.t_ (i : Int)).kids_ m → 0 < bk → ks.all (Tell H) bk →
    I.hashes_ = pre ++ ks.hshs → M = low + ks.mask → low < 2 ^ m →
    law11_RootItems.l1 y H i I fuel ((pre.length : Int), (m : Int)) = some (.inl (I.hashes_.length : Int))
  | 0, m, ks, bk, low, pre, h, _, _, _, _, _, _, _ => by omega
  | fuel + 1, m, ks, bk, low, pre, h, hm, hat, hb, hT, hp, hl, hlow => by
    rw [law11_RootItems.l1]
    rcases Nat.lt_or_ge m 16 with h16 | h16
    · have hM2 : 2 ^ (m + 1) = 2 ^ m + 2 ^ m := by rw [Nat.pow_succ]; omega
      rw [bif_true (decide_eq_true (by omega)), gd_pos (by omega), gd_pos (by omega), gd_pos (by exact u64_nn _), hM, bit_ok hM' h16, w64_nat (x := (m : Int) + 1) (k := m + 1) (by simp) (by omega)]
      rcases Ks.at_step hat h16 with ⟨h0, hat'⟩ | ⟨t, r, rfl, h0, hat'⟩
      · obtain ⟨q, e1, -, -⟩ := mask_div (at_up hat') (by omega)
        have hbit : M / 2 ^ m % 2 = 0 := by
          rw [hl, e1, Nat.pow_succ, Nat.mul_assoc, low_bit hlow]
          omega
        rw [h0, hbit, bif_false (by decide), bif_false (by decide)]
        simp only [Option.bind_some]
        exact items_l1 hi hM hM' hh fuel (m + 1) ks bk low pre (by omega) (by omega) hat' hb hT hp hl (by omega)
      · obtain ⟨q, e1, -, -⟩ := mask_div (at_up hat') (by omega)
        have hbit : M / 2 ^ m % 2 = 1 := by
          have e3 : 2 ^ m + 2 ^ m * (2 * q) = 2 ^ m * (1 + 2 * q) := by rw [Nat.mul_add, Nat.mul_one]
          rw [hl, Ks.mask, e1, Nat.pow_succ, Nat.mul_assoc, e3, low_bit hlow]
          omega
        obtain ⟨⟨t1, t2⟩, t3⟩ := hT
        have hpos := T.sz_pos t
        have e : gt H (bk : Int) = t.hsh := t2
        rw [Ks.hshs] at hp
        have hlen : I.hashes_.length = pre.length + (r.hshs.length + 1) := by rw [hp]; simp
        have e2 : gt I.hashes_ (pre.length : Int) = t.hsh := by rw [hp]; exact gt_end _ _ _
        have hne : ((bk : Int) != 0) = true := by rw [bne_iff_ne]; omega
        rw [h0, hbit, hne, bif_false (by decide), bif_true rfl, bif_false (decide_eq_false (by omega)), gd_pos (by omega), gd_pos (by omega), e, e2, seq_self]
        simp only [Option.bind_some, Bool.not_true]
        rw [bif_false rfl]
        simp only [Option.bind_some]
        rw [w64_nat (x := (pre.length : Int) + 1) (k := pre.length + 1) (by simp) (by omega)]
        have := items_l1 hi hM hM' hh fuel (m + 1) r (bk + t.sz) (low + 2 ^ m) (pre ++ [t.hsh]) (by omega) (by omega) hat' (by omega) t3 (by rw [hp]; simp) (by rw [hl, Ks.mask]; omega) (by omega)
        rw [List.length_append, List.length_singleton] at this
        exact this
    · rw [bif_false (decide_eq_false (by omega))]
      have : ks = .nil := by
        cases ks with
        | nil => rfl
        | cons c t r =>
          obtain ⟨h1, h2, -⟩ := hat
          omega
      subst this
      rw [hp, Ks.hshs, List.append_nil]
theorem items_l0 {l : List Pair} (hm : MayP l) (hl : l.length < 10000) (h0 : 0 < l.length) {y : ref10_Both_T} (hy : y.t_ = tri l) : ∀ (fuel i : Nat), (tri l).length - i < fuel → law11_RootItems.l0 y (hss l) fuel (i : Int) = some (.inl ())
  | 0, i, h => by omega
  | fuel + 1, i, h => by
    have hsz := tre_sz (l := l) (by omega) h0
    have htl := tri_len (l := l) h0
    have hs := hss_len (l := l)
    have he : l ≠ [] := List.length_pos_iff.mp h0
    have hh : hss l = (tre l).trs.map T.hsh := by unfold hss; rw [if_neg he]
    rw [law11_RootItems.l0, hy]
    rcases Nat.lt_or_ge i (tri l).length with hi | hi
    · obtain ⟨u, u1, u2, u3⟩ := rItem_ok hm hl h0 hi
      have hfit := T.item_fit u2.2.2
      have hT := told_of (tre l).trs
      have hg : gt (hss l) (i : Int) = u.hsh := by
        rw [hh]
        exact hT.2 i u (Nat.zero_le _) u1
      rw [bif_true (decide_eq_true (by omega)), u3]
      simp only [Option.bind_some]
      rw [(hash_ok hfit).1]
      simp only [Option.bind_some, Bool.not_true]
      rw [bif_false rfl, bif_false rfl, gd_pos (by omega), hg, T.hsh_item, seq_self, Bool.not_true, bif_false rfl, good_item hfit, Option.bind_some, Bool.not_true, Option.bind_some, bif_false rfl]
      obtain ⟨M, m1, m2, m3⟩ := hfit.msk
      obtain ⟨lab, ks⟩ := u
      have hM : M = 0 + ks.mask := by
        have : ((ks.mask : Nat) : Int) = (M : Int) := m1
        omega
      have hat : ks.at (i + 1) (gt y.t_ (i : Int)).kids_ 0 := by rw [hy, u2.1.get]; exact Ks.at_vec0 u2.2.2.2.1
      have h1 := items_l1 (y := y) (H := hss l) (i := i) (I := (T.node lab ks).item) (by rw [hy]; exact hi) m1 m2 hfit.few BIG 0 ks (i + 1) 0 [] (by have := BIG_ge; omega) (by omega) hat (by omega) (by rw [hh]; exact told_kids ⟨hT.1, hT.2⟩ (Nat.zero_le _) u2.2.1.kids) rfl hM (by simp)
      rw [show ((([] : List ByteArray).length : Nat) : Int) = 0 from rfl, show ((0 : Nat) : Int) = 0 from rfl] at h1
      rw [h1]
      simp only [Option.bind_some]
      rw [bif_false (c := ((T.node lab ks).item.hashes_.length : Int) != ((T.node lab ks).item.hashes_.length : Int)) (by simp), w64_nat (x := (i : Int) + 1) (k := i + 1) (by simp) (by omega)]
      exact items_l0 hm hl h0 hy fuel (i + 1) (by omega)
    · rw [bif_false (decide_eq_false (by omega))]
theorem rootItems_plain (wk : law11_wakes.f = some true) (l : List Pair) : law11_RootItems.f l = some true := by
  unfold law11_RootItems.f
  rcases long_ok l with hL | ⟨hL, hlen⟩
  · rw [hL, Option.bind_some, bif_true rfl, Option.bind_some, bif_true rfl, wk]
    rfl
  · rw [hL, Option.bind_some, bif_false rfl]
    rcases may_ok (l := l) (by omega) with ⟨hm, hM⟩ | ⟨hm, hM⟩
    · have hl : l.length < 10000 := by omega
      rw [hM, Option.bind_some, Bool.not_true, bif_false rfl, Option.bind_some]
      by_cases h12 : 12 < l.length
      · rw [bif_true (decide_eq_true (by omega)), wk]
        rfl
      · rw [bif_false (decide_eq_false (by omega)), Build2_ok hm (by omega)]
        simp only [Option.bind_some]
        rw [all_ok hm hl]
        simp only [Option.bind_some]
        rw [rof_ok hm hl]
        simp only [Option.bind_some, Bool.not_true]
        have hs := hss_len (l := l)
        rw [bif_false rfl, bif_false rfl, bif_false (c := ((hss l).length : Int) != ((tri l).length : Int)) (by rw [hs]; simp)]
        by_cases he : l = []
        · subst he
          obtain ⟨B, hB⟩ : ∃ B, BIG = B + 1 := ⟨BIG - 1, by have := BIG_ge; omega⟩
          have e1 : tri ([] : List Pair) = [] := rfl
          rw [e1, bif_false (by decide), Option.bind_some, bif_false rfl, hB, law11_RootItems.l0, bif_false (by simp)]
          simp only [Option.bind_some]
          rw [wk]
          rfl
        · have h0 : 0 < l.length := List.length_pos_iff.mpr he
          have htl := tri_len (l := l) h0
          have hsz := tre_sz (l := l) (by omega) h0
          have hpos := T.sz_pos (tre l)
          have hz : gt (hss l) 0 = (tre l).hsh := hss_zero he
          have hr : rt l = (tre l).hsh := by unfold rt; rw [if_neg he]
          rw [bif_true (decide_eq_true (by omega)), gd_pos (by omega), hz, hr, seq_self, Bool.not_true, Option.bind_some, bif_false rfl]
          have h1 := items_l0 hm hl h0 (y := ⟨tri l, trp l, true⟩) rfl BIG 0 (by have := BIG_ge; omega)
          rw [show ((0 : Nat) : Int) = 0 from rfl] at h1
          rw [h1]
          simp only [Option.bind_some]
          rw [wk]
          rfl
    · rw [hM]
      simp only [Option.bind_some, Bool.not_false]
      rw [bif_true rfl, Option.bind_some, bif_true rfl, wk]
      rfl
end Go.Lf
