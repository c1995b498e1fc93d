/- The bytes of a sheet, all sheets' bytes. -/
import Derived.Test.YtckhmgglgbnaaaaM15
set_option linter.unusedVariables false
set_option linter.unusedSimpArgs false
namespace Go.Lf
open Go
theorem ix_gt {X : List (Nat × T)} {i : Nat} (h : i < X.length) : gt (ix X) (i : Int) = ((X.getD i default).1 : Int) := by
  simp [gt, ix, List.getD_eq_getElem?_getD, List.getElem?_eq_getElem h]
theorem bytes_l0 {a : List Node} {p : Plan} {X : List (Nat × T)} (hp : p.nodes_ = ix X) (hl : X.length < 1000000000) (hs : Sts a X) (ha : X.Pairwise (fun x y => x.1 < y.1)) : ∀ (fuel i : Nat) (last : Int), X.length - i < fuel → (∀ y ∈ X.drop i, last < (y.1 : Int)) → pack_Bytes.l0 a p fuel (i, last) = some (.inl ())
  | 0, i, last, h, _ => by omega
  | fuel + 1, i, last, h, hlast => by
    rw [pack_Bytes.l0, hp]
    have hil := ix_len X
    rcases Nat.lt_or_ge i X.length with hi | hi
    · have hm : X.getD i default ∈ X := by
        rw [List.getD_eq_getElem?_getD, List.getElem?_eq_getElem hi]; exact List.getElem_mem hi
      have hd := drop_cons (default : Nat × T) hi
      have hlt := (hs _ hm).1.lt
      have hpos := T.sz_pos (X.getD i default).2
      have h1 := hlast (X.getD i default) (by rw [hd]; exact List.mem_cons_self ..)
      rw [bif_true (decide_eq_true (by omega)), gd_pos (by omega), ix_gt hi, w64_nat (x := (i : Int) + 1) (k := i + 1) (by simp) (by omega)]
      rw [bif_false (c := decide (((X.getD i default).1 : Int) ≤ last)) (decide_eq_false (by omega)), Option.bind_some, bif_false (decide_eq_false (by omega))]
      refine bytes_l0 hp hl hs ha fuel (i + 1) _ (by omega) fun y hy => ?_
      have h2 : (X.drop i).Pairwise (fun x y => x.1 < y.1) := ha.sublist (List.drop_sublist ..)
      rw [hd] at h2
      have := (List.pairwise_cons.mp h2).1 y hy
      omega
    · rw [bif_false (decide_eq_false (by omega))]
theorem bytes_l1 {a : List Node} {p : Plan} {x : Nat × T} {N : List (Nat × T)} (hp : p.nodes_ = ix (x :: N)) (hl : N.length < 1000000) (h : Shn a x N) :
    ∀ (fuel j acc : Nat), N.length - j < fuel → acc ≤ 100 * (j + 1) → j ≤ N.length → ∃ r : Nat, pack_Bytes.l1 a p fuel (((j + 1 : Nat) : Int), (acc : Int)) = some (r : Int) ∧ r + 3 * (N.length - j) = acc + ows (N.drop j)
  | 0, j, acc, hf, _, _ => by omega
  | fuel + 1, j, acc, hf, hacc, hj => by
    rw [pack_Bytes.l1, hp]
    have hil := ix_len (x :: N)
    rw [List.length_cons] at hil
    rcases Nat.lt_or_ge j N.length with hi | hi
    · have hm : N.getD j default ∈ N := by
        rw [List.getD_eq_getElem?_getD, List.getElem?_eq_getElem hi]; exact List.getElem_mem hi
      obtain ⟨l1, l2⟩ := h.sts _ (List.mem_cons_of_mem _ hm)
      have hlt := l1.lt
      have hpos := T.sz_pos (N.getD j default).2
      have hge := T.own_ge (N.getD j default).2
      have hle := T.own_le l2
      have hg : gt (ix (x :: N)) ((j + 1 : Nat) : Int) = ((N.getD j default).1 : Int) := by
        rw [ix_gt (by simp; omega)]
        simp
      have hb : ∀ i ∈ ix (x :: N), 0 ≤ i ∧ i < (a.length : Int) := by
        intro i hi
        obtain ⟨z, hz, rfl⟩ := List.mem_map.mp hi
        have := (h.sts z hz).1.lt
        have := T.sz_pos z.2
        omega
      rw [bif_true (decide_eq_true (by omega)), gd_pos (by omega), hg, gd_pos (by omega), size_ok l1 l2, Option.bind_some]
      rcases cfunc_ok (a := a) (xs := ix (x :: N)) (v := ((N.getD j default).1 : Int)) (by omega) hb with ⟨-, e⟩ | ⟨e, -⟩
      · rw [e]
        simp only [Option.bind_some]
        rw [bif_true rfl]
        simp only [Option.bind_some]
        rw [w64_nat (x := (acc : Int) + ((N.getD j default).2.own : Int)) (k := acc + (N.getD j default).2.own) (by simp) (by omega), w64_nat (x := ((acc + (N.getD j default).2.own : Nat) : Int) - 3) (k := acc + (N.getD j default).2.own - 3) (by omega) (by omega), w64_nat (x := ((j + 1 : Nat) : Int) + 1) (k := j + 1 + 1) (by simp) (by omega)]
        obtain ⟨r, h1, h2⟩ := bytes_l1 hp hl h fuel (j + 1) (acc + (N.getD j default).2.own - 3) (by omega) (by omega) (by omega)
        refine ⟨r, h1, ?_⟩
        rw [drop_cons default hi, ows]
        omega
      · exact absurd (shn_kid h hm) e
    · rw [bif_false (decide_eq_false (by omega)), List.drop_eq_nil_of_le hi]
      exact ⟨acc, rfl, by simp [ows]; omega⟩
theorem Bytes_ok {a : List Node} {p : Plan} {x : Nat × T} {N : List (Nat × T)} (hp : p.nodes_ = ix (x :: N)) (hl : N.length < 1000000) (h : Shn a x N) (hg : trie_Good.f a = some true) :
    ∃ r : Nat, pack_Bytes.f a p = some ((r : Int), true) ∧ r + 3 * N.length = x.2.own + ows N := by
  unfold pack_Bytes.f
  have hasc : (x :: N).Pairwise (fun x y => x.1 < y.1) := List.pairwise_cons.mpr ⟨fun y hy => by have := (h.asc.2 y hy).1; omega, h.asc.1⟩
  have h0 := bytes_l0 (a := a) hp (by simp; omega) h.sts hasc BIG 0 (-1) (by simp; have := BIG_ge; omega) (fun y _ => by omega)
  rw [show ((0 : Nat) : Int) = 0 from rfl] at h0
  rw [h0]
  simp only [Option.bind_some]
  rw [hg, Option.bind_some, bif_false (c := !true) rfl]
  obtain ⟨B, hB⟩ : ∃ B, BIG = B + 1 := ⟨BIG - 1, by have := BIG_ge; omega⟩
  have hBg : 1000000000 < B := by have := BIG_ge; omega
  rw [hB, pack_Bytes.l1, hp]
  have hil := ix_len (x :: N)
  rw [List.length_cons] at hil
  obtain ⟨l1, l2⟩ := h.sts x (List.mem_cons_self ..)
  have hlt := l1.lt
  have hpos := T.sz_pos x.2
  have hle := T.own_le l2
  have hgx : gt (ix (x :: N)) 0 = (x.1 : Int) := rfl
  have hb : ∀ i ∈ ix (x :: N), 0 ≤ i ∧ i < (a.length : Int) := by
    intro i hi
    obtain ⟨z, hz, rfl⟩ := List.mem_map.mp hi
    have := (h.sts z hz).1.lt
    have := T.sz_pos z.2
    omega
  rw [bif_true (decide_eq_true (by omega)), gd_pos (by omega), hgx, gd_pos (by omega), size_ok l1 l2, Option.bind_some]
  rcases cfunc_ok (a := a) (xs := ix (x :: N)) (v := (x.1 : Int)) (by omega) hb with ⟨e, -⟩ | ⟨-, e⟩
  · exact absurd e (shn_top h)
  · rw [e]
    simp only [Option.bind_some]
    rw [bif_false rfl]
    simp only [Option.bind_some]
    rw [w64_nat (x := (0 : Int) + (x.2.own : Int)) (k := x.2.own) (by simp) (by omega), w64_nat (x := (0 : Int) + 1) (k := 0 + 1) (by simp) (by omega)]
    obtain ⟨r, h1, h2⟩ := bytes_l1 hp hl h B 0 x.2.own (by omega) (by omega) (by omega)
    rw [h1]
    exact ⟨r, rfl, by rw [List.drop_zero] at h2; omega⟩
end Go.Lf
