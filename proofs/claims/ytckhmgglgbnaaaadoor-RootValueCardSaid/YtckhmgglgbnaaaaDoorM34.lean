/- All hashes of a trie. -/
import Derived.Test.YtckhmgglgbnaaaaDoorM33
set_option linter.unusedVariables false
set_option linter.unusedSimpArgs false
namespace Go.Lf
open Go
theorem shl_one {m : Nat} (h : m < 16) : shl .i64 1 (m : Int) = ((2 ^ m : Nat) : Int) := by
  unfold shl
  have h1 : (IntKind.bits .i64) = 64 := rfl
  have hp : 2 ^ m < 2 ^ 16 := Nat.pow_lt_pow_right (by decide) h
  rw [h1, Int.toNat_natCast, Nat.min_eq_left (by omega), Int.one_mul]
  have : (2 : Int) ^ m = ((2 ^ m : Nat) : Int) := by simp
  rw [this]
  exact wrapi64_nat (by omega)
theorem bor_mask {M m : Nat} (h : m < 16) (hM : M < 2 ^ m) : bor .i64 (M : Int) (shl .i64 1 (m : Int)) = ((M + 2 ^ m : Nat) : Int) := by
  have hp : 2 ^ m < 2 ^ 16 := Nat.pow_lt_pow_right (by decide) h
  rw [shl_one h]
  unfold bor
  have h1 : (IntKind.bits .i64) = 64 := rfl
  rw [h1, ofInt_nat, ofInt_nat, BitVec.toNat_or, BitVec.toNat_ofNat, BitVec.toNat_ofNat, Nat.mod_eq_of_lt (by omega), Nat.mod_eq_of_lt (by omega)]
  have e : M ||| 2 ^ m = M + 2 ^ m := by
    have := Nat.two_pow_add_eq_or_of_lt hM 1
    rw [Nat.mul_one] at this
    rw [Nat.or_comm, ← this, Nat.add_comm]
  rw [e]
  exact wrapi64_nat (by omega)
/-- H tells the hashes of these children, the first of which stands at b. -/
abbrev Tell (H : List ByteArray) : T → Nat → Prop := fun t b => b < H.length ∧ H.getD b default = t.hsh
theorem itemR_l0 {nd : Node} {H : List ByteArray} : ∀ (fuel m : Nat) (ks : Ks) (bk : Nat) (acc : List ByteArray) (M : Nat), 16 - m < fuel → m ≤ 16 → ks.at bk nd.kids_ m → 0 < bk → ks.all (Tell H) bk → acc.length ≤ m → M < 2 ^ m →
    root_item_r1.l0 nd H fuel (acc, (M : Int), (m : Int)) = some (acc ++ ks.hshs, ((M + ks.mask : Nat) : Int))
  | 0, m, ks, bk, acc, M, h, _, _, _, _, _, _ => by omega
  | fuel + 1, m, ks, bk, acc, M, h, hm, hat, hb, hT, hacc, hM => by
    rw [root_item_r1.l0]
    rcases Nat.lt_or_ge m 16 with h16 | h16
    · rw [bif_true (decide_eq_true (by omega)), gd_pos (by omega), w64_nat (x := (m : Int) + 1) (k := m + 1) (by simp) (by omega)]
      have hM2 : 2 ^ (m + 1) = 2 ^ m + 2 ^ m := by rw [Nat.pow_succ]; omega
      rcases Ks.at_step hat h16 with ⟨h0, hat'⟩ | ⟨t, r, rfl, h0, hat'⟩
      · rw [h0, bif_false (c := (0 : Int) != 0) rfl]
        simp only [Option.bind_some]
        exact itemR_l0 fuel (m + 1) ks bk acc M (by omega) (by omega) hat' hb hT (by omega) (by omega)
      · obtain ⟨⟨t1, t2⟩, t3⟩ := hT
        have hpos := T.sz_pos t
        have e : gt H (bk : Int) = t.hsh := t2
        rw [h0, bif_true (c := (bk : Int) != 0) (by simp; omega), gd_pos (by omega), gd_pos (by omega), gd_pos (by omega), e, bor_mask h16 hM]
        simp only [Option.bind_some]
        rw [itemR_l0 fuel (m + 1) r (bk + t.sz) _ _ (by omega) (by omega) hat' (by omega) t3 (by simp; omega) (by omega), Ks.hshs, Ks.mask]
        simp [Nat.add_assoc]
    · rw [bif_false (decide_eq_false (by omega))]
      have : ks = .nil := by
        cases ks with
        | nil => rfl
        | cons c t r =>
          obtain ⟨h1, h2, -⟩ := hat
          omega
      subst this
      simp [Ks.hshs, Ks.mask]
theorem item_l0 {nd : Node} {H : List ByteArray} : ∀ (fuel m : Nat) (ks : Ks) (bk : Nat) (acc : List ByteArray) (M : Nat), 16 - m < fuel → m ≤ 16 → ks.at bk nd.kids_ m → 0 < bk → ks.all (Tell H) bk → acc.length ≤ m → M < 2 ^ m →
    root_item.l0 nd H fuel (acc, (M : Int), (m : Int)) = some (acc ++ ks.hshs, ((M + ks.mask : Nat) : Int))
  | 0, m, ks, bk, acc, M, h, _, _, _, _, _, _ => by omega
  | fuel + 1, m, ks, bk, acc, M, h, hm, hat, hb, hT, hacc, hM => by
    rw [root_item.l0]
    rcases Nat.lt_or_ge m 16 with h16 | h16
    · rw [bif_true (decide_eq_true (by omega)), gd_pos (by omega), w64_nat (x := (m : Int) + 1) (k := m + 1) (by simp) (by omega)]
      have hM2 : 2 ^ (m + 1) = 2 ^ m + 2 ^ m := by rw [Nat.pow_succ]; omega
      rcases Ks.at_step hat h16 with ⟨h0, hat'⟩ | ⟨t, r, rfl, h0, hat'⟩
      · rw [h0, bif_false (c := (0 : Int) != 0) rfl]
        simp only [Option.bind_some]
        exact item_l0 fuel (m + 1) ks bk acc M (by omega) (by omega) hat' hb hT (by omega) (by omega)
      · obtain ⟨⟨t1, t2⟩, t3⟩ := hT
        have hpos := T.sz_pos t
        have e : gt H (bk : Int) = t.hsh := t2
        rw [h0, bif_true (c := (bk : Int) != 0) (by simp; omega), gd_pos (by omega), gd_pos (by omega), gd_pos (by omega), e, bor_mask h16 hM]
        simp only [Option.bind_some]
        rw [item_l0 fuel (m + 1) r (bk + t.sz) _ _ (by omega) (by omega) hat' (by omega) t3 (by simp; omega) (by omega), Ks.hshs, Ks.mask]
        simp [Nat.add_assoc]
    · rw [bif_false (decide_eq_false (by omega))]
      have : ks = .nil := by
        cases ks with
        | nil => rfl
        | cons c t r =>
          obtain ⟨h1, h2, -⟩ := hat
          omega
      subst this
      simp [Ks.hshs, Ks.mask]
/-- The hashes from place i on are told. -/
def Told (L : List T) (i : Nat) (H : List ByteArray) : Prop := H.length = L.length ∧ ∀ j u, i ≤ j → L[j]? = some u → H.getD j default = u.hsh
theorem told_kids {L : List T} {H : List ByteArray} {i : Nat} (hT : Told L i H) {ks : Ks} {b : Nat} (hb : i ≤ b) (h : ks.all (fun t i => LiesT L i t) b) : ks.all (Tell H) b :=
  Ks.all_mono (fun t j hj hl => by
    have hg := hl.get
    refine ⟨?_, hT.2 j t (by omega) hg⟩
    rw [hT.1]
    exact (List.getElem?_eq_some_iff.mp hg).1) h
theorem itemR_ok {a : List Node} {L : List T} {H : List ByteArray} {i : Nat} {u : T} (hP : Pos a L i u) (hT : Told L (i + 1) H) : root_item_r1.f (gt a (i : Int)) H = some u.item := by
  obtain ⟨l, ks⟩ := u
  obtain ⟨h1, h2, h3⟩ := hP
  unfold root_item_r1.f
  have hat : ks.at (i + 1) (gt a (i : Int)).kids_ 0 := by rw [h1.get]; exact Ks.at_vec0 h3.2.1
  have h := itemR_l0 (H := H) BIG 0 ks (i + 1) [] 0 (by have := BIG_ge; omega) (by omega) hat (by omega) (told_kids hT (by omega) h2.kids) (by simp) (by simp)
  rw [show ((0 : Nat) : Int) = 0 from rfl] at h
  rw [h, h1.get]
  simp only [Option.bind_some, List.nil_append, Nat.zero_add]
  rfl
theorem item_ok {a : List Node} {L : List T} {H : List ByteArray} {i : Nat} {u : T} (hP : Pos a L i u) (hT : Told L (i + 1) H) : root_item.f (gt a (i : Int)) H = some u.item := by
  obtain ⟨l, ks⟩ := u
  obtain ⟨h1, h2, h3⟩ := hP
  unfold root_item.f
  have hat : ks.at (i + 1) (gt a (i : Int)).kids_ 0 := by rw [h1.get]; exact Ks.at_vec0 h3.2.1
  have h := item_l0 (H := H) BIG 0 ks (i + 1) [] 0 (by have := BIG_ge; omega) (by omega) hat (by omega) (told_kids hT (by omega) h2.kids) (by simp) (by simp)
  rw [show ((0 : Nat) : Int) = 0 from rfl] at h
  rw [h, h1.get]
  simp only [Option.bind_some, List.nil_append, Nat.zero_add]
  rfl
theorem hashes_l0 {a : List Node} {L : List T} (hL : L.length = a.length) (ha : a.length < 1000000000) (hP : ∀ i, i < a.length → ∃ u, L[i]? = some u ∧ Pos a L i u) : ∀ (fuel i : Nat) (H : List ByteArray), i < fuel → i ≤ a.length → Told L i H → ∃ H', root_hashes.l0 a fuel (H, (i : Int) - 1) = some H' ∧ Told L 0 H'
  | 0, i, H, h, _, _ => by omega
  | fuel + 1, i, H, h, hi, hT => by
    rw [root_hashes.l0]
    rcases Nat.eq_zero_or_pos i with rfl | h0
    · rw [bif_false (decide_eq_false (by omega))]
      exact ⟨H, rfl, hT⟩
    · obtain ⟨j, rfl⟩ : ∃ j, i = j + 1 := ⟨i - 1, by omega⟩
      obtain ⟨u, u1, u2⟩ := hP j (by omega)
      have e : (((j + 1 : Nat) : Int) - 1) = (j : Int) := by omega
      have hlen := hT.1
      rw [e, bif_true (decide_eq_true (by omega)), gd_pos (by omega), itemR_ok u2 hT, Option.bind_some, (hash_ok (T.item_fit u2.2.2)).1]
      simp only [Option.bind_some]
      have e2 : w64 ((j : Int) - 1) = (j : Int) - 1 := w64_id (by omega)
      rw [gd_pos (by omega), e2, Int.toNat_natCast]
      refine hashes_l0 hL ha hP fuel j _ (by omega) (by omega) ⟨by rw [List.length_set]; exact hlen, fun k v hk hv => ?_⟩
      rw [List.getD_eq_getElem?_getD, List.getElem?_set]
      split
      · rename_i hjk
        subst hjk
        rw [if_pos (by omega), Option.getD_some]
        rw [u1] at hv
        cases hv
        exact (T.hsh_item u).symm
      · rename_i hjk
        rw [← List.getD_eq_getElem?_getD]
        exact hT.2 k v (by omega) hv
/-- All hashes of the trie of pairs. -/
noncomputable def hss (l : List Pair) : List ByteArray := if l = [] then [] else (tre l).trs.map T.hsh
theorem told_map {L : List T} {H : List ByteArray} (h : Told L 0 H) : H = L.map T.hsh := by
  apply List.ext_getElem?
  intro i
  rw [List.getElem?_map]
  rcases Nat.lt_or_ge i L.length with hi | hi
  · have h2 := h.2 i L[i] (Nat.zero_le _) (List.getElem?_eq_getElem hi)
    rw [List.getElem?_eq_getElem hi, List.getElem?_eq_getElem (by rw [h.1]; exact hi)]
    rw [List.getD_eq_getElem?_getD, List.getElem?_eq_getElem (by rw [h.1]; exact hi), Option.getD_some] at h2
    rw [h2]
    rfl
  · rw [List.getElem?_eq_none (by rw [h.1]; exact hi), List.getElem?_eq_none hi]
    rfl
theorem told_of (L : List T) : Told L 0 (L.map T.hsh) := ⟨by simp, fun j u _ h => by
  rw [List.getD_eq_getElem?_getD, List.getElem?_map, h]
  rfl⟩
theorem rhashes_ok {l : List Pair} (hm : MayP l) (hl : l.length < 10000) : root_hashes.f (tri l) = some (hss l) := by
  unfold root_hashes.f
  by_cases he : l = []
  · subst he
    obtain ⟨B, hB⟩ : ∃ B, BIG = B + 1 := ⟨BIG - 1, by have := BIG_ge; omega⟩
    have e1 : tri ([] : List Pair) = [] := rfl
    have e2 : hss ([] : List Pair) = [] := by unfold hss; rw [if_pos rfl]
    rw [e1, e2, gd_pos (by simp), hB, root_hashes.l0, bif_false (by decide)]
    rfl
  · have h0 : 0 < l.length := List.length_pos_iff.mpr he
    have hsz := tre_sz (l := l) (by omega) h0
    have htl := tri_len (l := l) h0
    have hL : (tre l).trs.length = (tri l).length := by rw [T.trs_len, htl]
    have e : w64 (((tri l).length : Int) - 1) = ((tri l).length : Int) - 1 := w64_id (by omega)
    obtain ⟨H, h1, h2⟩ := hashes_l0 hL (by omega) (fun i hi => tre_pos hm (by omega) h0 hi) BIG (tri l).length (List.replicate (tri l).length ⟨#[]⟩) (by have := BIG_ge; omega) (Nat.le_refl _) ⟨by rw [List.length_replicate, hL], fun j u hj hu => by
      have := (List.getElem?_eq_some_iff.mp hu).1
      omega⟩
    rw [gd_pos (by omega), e, Int.toNat_natCast, h1, Option.bind_some, told_map h2]
    unfold hss
    rw [if_neg he]
theorem hss_len {l : List Pair} : (hss l).length = (tri l).length := by
  unfold hss tri
  split
  · rfl
  · rw [List.length_map, T.trs_len, T.flat_len]
theorem all_ok {l : List Pair} (hm : MayP l) (hl : l.length < 10000) : root_All.f (tri l) = some (hss l, true) := by
  unfold root_All.f
  rw [good_ok hm hl, Option.bind_some, bif_false (c := !true) rfl, rhashes_ok hm hl]
  rfl
/-- The root of the trie of pairs. -/
noncomputable def rt (l : List Pair) : ByteArray := if l = [] then dg ⟨#[0]⟩ else (tre l).hsh
theorem empty_ok : root_Empty.f = some (dg ⟨#[0]⟩) := by
  unfold root_Empty.f
  rw [(dg_ok (s := ⟨#[0]⟩) (by decide)).1]
  rfl
theorem hss_zero {l : List Pair} (h : l ≠ []) : (hss l).getD 0 default = (tre l).hsh := by
  unfold hss
  rw [if_neg h]
  generalize tre l = t
  obtain ⟨lab, ks⟩ := t
  simp [T.trs]
theorem rof_ok {l : List Pair} (hm : MayP l) (hl : l.length < 10000) : root_Of.f (tri l) = some (rt l, true) := by
  unfold root_Of.f
  rw [all_ok hm hl]
  simp only [Option.bind_some]
  rw [bif_false (c := !true) rfl]
  by_cases he : l = []
  · subst he
    have e2 : hss ([] : List Pair) = [] := by unfold hss; rw [if_pos rfl]
    rw [e2, bif_true (by rfl), empty_ok]
    rfl
  · have h0 : 0 < l.length := List.length_pos_iff.mpr he
    have htl := tri_len (l := l) h0
    have hpos := T.sz_pos (tre l)
    have hs := hss_len (l := l)
    have e : gt (hss l) 0 = (tre l).hsh := hss_zero he
    have hb : (((hss l).length : Int) == 0) = false := by rw [beq_eq_false_iff_ne]; omega
    rw [hb, bif_false rfl, gd_pos (by omega), e]
    unfold rt
    rw [if_neg he]
theorem rItem_ok {l : List Pair} (hm : MayP l) (hl : l.length < 10000) (h0 : 0 < l.length) {i : Nat} (hi : i < (tri l).length) : ∃ u, (tre l).trs[i]? = some u ∧ Pos (tri l) (tre l).trs i u ∧ root_Item.f (tri l) (i : Int) = some (u.item, true) := by
  obtain ⟨u, u1, u2⟩ := tre_pos hm (by omega) h0 hi
  refine ⟨u, u1, u2, ?_⟩
  have he : l ≠ [] := List.length_pos_iff.mp h0
  have hh : hss l = (tre l).trs.map T.hsh := by unfold hss; rw [if_neg he]
  have hT := told_of (tre l).trs
  unfold root_Item.f
  rw [bif_false (c := decide ((i : Int) < 0)) (decide_eq_false (by omega)), bif_false (c := decide ((i : Int) ≥ ((tri l).length : Int))) (decide_eq_false (by omega)), good_ok hm hl]
  simp only [Option.bind_some, Bool.not_true]
  rw [bif_false rfl, gd_pos (by omega), rhashes_ok hm hl, Option.bind_some, hh, item_ok u2 ⟨hT.1, fun j v _ hv => hT.2 j v (Nat.zero_le _) hv⟩]
  rfl
end Go.Lf
