/- PackSizes, as a plain law. -/
import Derived.Test.YtckhmgglgbnaaaaM16
set_option linter.unusedVariables false
set_option linter.unusedSimpArgs false
namespace Go.Lf
open Go
/-- These sheets' bytes are so many. -/
def Bs (a : List Node) : List Plan → Nat → Prop
  | [], v => v = 0
  | p :: ps, v => ∃ x y, pack_Bytes.f a p = some (((x : Nat) : Int), true) ∧ Bs a ps y ∧ v = x + y
theorem Bs.app {a : List Node} : ∀ {p q : List Plan} {v w : Nat}, Bs a p v → Bs a q w → Bs a (p ++ q) (v + w)
  | [], q, v, w, h, h' => by
    have h : v = 0 := h
    subst h
    simpa using h'
  | x :: p, q, v, w, ⟨m, y, h1, h2, h3⟩, h' => ⟨m, y + w, h1, Bs.app h2 h', by omega⟩
theorem gr_shn {a : List Node} {t : T} {b : Nat} (hl : Lies a b t) (ho : t.ok) : ∃ N, (gr t b).nodes = (b, t) :: N ∧ Shn a (b, t) N := by
  obtain ⟨N, h1, h2, h3⟩ := gr_nodes (b := b) ho
  refine ⟨N, h1, ⟨?_, h2, h3⟩⟩
  rw [← h1]
  exact (gr_sts hl ho).1
theorem shL_bs {a : List Node} {rc : T → Nat → Nat → List Plan} : ∀ (x : List (Nat × T)) (nx : Nat), Sts a x →
    (∀ y ∈ x, ∀ me, ∃ v, Bs a (rc y.2 y.1 me) v ∧ v + 3 * y.2.sz = y.2.tot + 3 * (rc y.2 y.1 me).length) →
    ∃ v, Bs a (shL rc x nx).2 v ∧ v + 3 * szs x = tots x + 3 * (shL rc x nx).2.length
  | [], nx, _, _ => ⟨0, rfl, rfl⟩
  | x :: r, nx, hs, h => by
    obtain ⟨v, h1, h2⟩ := h x (List.mem_cons_self ..) nx
    obtain ⟨w, h3, h4⟩ := shL_bs r (nx + (rc x.2 x.1 nx).length) (fun y hy => hs y (List.mem_cons_of_mem _ hy)) (fun y hy => h y (List.mem_cons_of_mem _ hy))
    refine ⟨v + w, h1.app h3, ?_⟩
    simp only [shL, szs, tots, List.length_append]
    omega
theorem shs_bs {a : List Node} (pp : List ByteArray) (hg : trie_Good.f a = some true) (ha : a.length < 1000000) : ∀ (k : Nat) (t : T) (b me : Nat), Lies a b t → t.ok → t.sz ≤ k → ∃ v, Bs a (shs pp k t b me) v ∧ v + 3 * t.sz = t.tot + 3 * (shs pp k t b me).length
  | 0, t, b, me, hl, ho, hk => by have := T.sz_pos t; omega
  | k + 1, t, b, me, hl, ho, hk => by
    obtain ⟨N, hN, hS⟩ := gr_shn hl ho
    have hlt := hl.lt
    have htops := gr_tops (b := b) ho
    obtain ⟨g1, g2, -⟩ := T.grow_sum t b ⟨[], t.own, []⟩
    have e1 : (gr t b).nodes = (t.grow b ⟨[], t.own, []⟩).nodes := rfl
    have e2 : (gr t b).tops = (t.grow b ⟨[], t.own, []⟩).tops := rfl
    rw [← e1, ← e2, hN] at g1 g2
    simp only [List.length_cons, List.length_nil, szs, tots, ows] at g1 g2
    obtain ⟨r, h1, h2⟩ := Bytes_ok (a := a) (p := ⟨tx pp b, (b : Int), ix (gr t b).nodes, (shL (shs pp k) (gr t b).tops (me + 1)).1⟩) (by show ix (gr t b).nodes = _; rw [hN]) (by omega) hS hg
    obtain ⟨v, h3, h4⟩ := shL_bs (a := a) (rc := shs pp k) (gr t b).tops (me + 1) (gr_sts hl ho).2 (fun y hy me' => shs_bs pp hg ha k y.2 y.1 me' ((gr_sts hl ho).2 y hy).1 ((gr_sts hl ho).2 y hy).2 (by have := szs_mem hy; omega))
    refine ⟨r + v, ⟨r, v, h1, h3, rfl⟩, ?_⟩
    simp only [shs, List.length_cons]
    simp only at h2
    omega
theorem long_l0 {l : List Pair} : ∀ (fuel i n : Nat), 3001 - n < fuel → i ≤ n → n ≤ 10000 → ∃ y : Nat, keep_LongPairs.l0 l fuel ((n : Int), (i : Int)) = some (y : Int) ∧ y ≤ 10000 ∧ (y ≤ 3000 → l.length ≤ y)
  | 0, i, n, h, _, _ => by omega
  | fuel + 1, i, n, h, hi, hn => by
    rw [keep_LongPairs.l0]
    rcases Nat.lt_or_ge i l.length with hl | hl
    · rw [bif_true (decide_eq_true (by omega)), Option.bind_some]
      by_cases hc : n ≤ 3000
      · rw [bif_true (decide_eq_true (by omega)), gd_pos (by omega), gd_pos (by omega)]
        obtain ⟨x, hx, hx'⟩ : ∃ x : Nat, (if (3000 : Int) < (((gt l (i : Int)).key_).size : Int) then 3000 else (((gt l (i : Int)).key_).size : Int)) = (x : Int) ∧ x ≤ 3000 := by
          split
          · exact ⟨3000, rfl, by omega⟩
          · exact ⟨_, rfl, by omega⟩
        obtain ⟨z, hz, hz'⟩ : ∃ z : Nat, (if (3000 : Int) < (((gt l (i : Int)).value_).size : Int) then 3000 else (((gt l (i : Int)).value_).size : Int)) = (z : Int) ∧ z ≤ 3000 := by
          split
          · exact ⟨3000, rfl, by omega⟩
          · exact ⟨_, rfl, by omega⟩
        rw [hx, hz, w64_nat (x := 1 + (x : Int)) (k := 1 + x) (by simp) (by omega), w64_nat (x := ((1 + x : Nat) : Int) + (z : Int)) (k := 1 + x + z) (by simp) (by omega), w64_nat (x := (n : Int) + ((1 + x + z : Nat) : Int)) (k := n + (1 + x + z)) (by simp) (by omega), w64_nat (x := (i : Int) + 1) (k := i + 1) (by simp) (by omega)]
        exact long_l0 fuel (i + 1) (n + (1 + x + z)) (by omega) (by omega) (by omega)
      · rw [bif_false (decide_eq_false (by omega))]
        exact ⟨n, rfl, hn, fun h => by omega⟩
    · rw [bif_false (decide_eq_false (by omega)), Option.bind_some, bif_false rfl]
      exact ⟨n, rfl, hn, fun h => by omega⟩
theorem long_ok (l : List Pair) : keep_LongPairs.f l = some true ∨ keep_LongPairs.f l = some false ∧ l.length ≤ 3000 := by
  unfold keep_LongPairs.f
  obtain ⟨y, h1, h2, h3⟩ := long_l0 (l := l) BIG 0 0 (by have := BIG_ge; omega) (by omega) (by omega)
  rw [show ((0 : Nat) : Int) = 0 from rfl] at h1
  rw [h1]
  simp only [Option.bind_some]
  by_cases h : y ≤ 3000
  · exact .inr ⟨by simp; omega, by have := h3 h; omega⟩
  · exact .inl (by simp; omega)

theorem sizes_l0 {l : List Pair} (hm : MayP l) (hl : l.length < 10000) (h0 : 0 < l.length) {y : ref10_Both_T} (hy : y.t_ = tri l) : ∀ (fuel i acc : Nat), (tri l).length - i < fuel → i ≤ (tri l).length → acc ≤ 69 * i →
    law19_PackSizes.l0 y fuel ((acc : Int), (i : Int)) = some (.inl ((acc + ((tre l).owns.drop i).sum : Nat) : Int))
  | 0, i, acc, h, _, _ => by omega
  | fuel + 1, i, acc, h, hi, hacc => by
    have hsz := tre_sz (by omega) h0
    have hlen := tri_len h0
    have hol := (T.owns_len (tre l)).1
    rw [law19_PackSizes.l0, hy]
    rcases Nat.lt_or_ge i (tri l).length with hlt | hge
    · have hx : (tre l).owns[i]? = some ((tre l).owns.getD i 0) := by
        rw [List.getD_eq_getElem?_getD, List.getElem?_eq_getElem (by omega), Option.getD_some]
      obtain ⟨h1, h2, h3⟩ := T.owns_at (tre l) 0 i _ (tre_lies h0) (tre_ok hm (by omega) h0) hx
      rw [Nat.zero_add] at h1
      rw [bif_true (decide_eq_true (by omega)), Size_ok hm hl hlt, h1]
      simp only [Option.bind_some, Bool.not_true]
      rw [bif_false rfl, bif_false (decide_eq_false (by omega)), Option.bind_some, bif_false (decide_eq_false (by omega))]
      rw [w64_nat (x := (acc : Int) + (((tre l).owns.getD i 0 : Nat) : Int)) (k := acc + (tre l).owns.getD i 0) (by simp) (by omega), w64_nat (x := (i : Int) + 1) (k := i + 1) (by simp) (by omega)]
      rw [sizes_l0 hm hl h0 hy fuel (i + 1) _ (by omega) (by omega) (by omega), drop_cons 0 (show i < (tre l).owns.length by omega), List.sum_cons, Nat.add_assoc]
    · rw [bif_false (decide_eq_false (by omega)), List.drop_eq_nil_of_le (by omega)]
      simp
theorem sizes_l1 {a : List Node} {y : ref10_Both_T} (hy : y.t_ = a) {P : List Plan} (hP : P.length < 1000000) : ∀ (fuel i acc v : Nat), P.length - i < fuel → i ≤ P.length → Bs a (P.drop i) v → acc + v ≤ 1000000000 →
    law19_PackSizes.l1 y P fuel ((i : Int), (acc : Int)) = some (.inl ((acc + v : Nat) : Int))
  | 0, i, acc, v, h, _, _, _ => by omega
  | fuel + 1, i, acc, v, h, hi, hb, hv => by
    rw [law19_PackSizes.l1, hy]
    rcases Nat.lt_or_ge i P.length with hlt | hge
    · rw [drop_cons default hlt] at hb
      obtain ⟨x, w, h1, h2, h3⟩ := hb
      rw [bif_true (decide_eq_true (by omega)), gd_pos (by omega), gt_nat, h1]
      simp only [Option.bind_some, Bool.not_true]
      rw [bif_false rfl, w64_nat (x := (i : Int) + 1) (k := i + 1) (by simp) (by omega), w64_nat (x := (acc : Int) + (x : Int)) (k := acc + x) (by simp) (by omega)]
      rw [sizes_l1 hy hP fuel (i + 1) (acc + x) w (by omega) (by omega) h2 (by omega)]
      congr 3
      omega
    · rw [List.drop_eq_nil_of_le hge] at hb
      have hb : v = 0 := hb
      subst hb
      rw [bif_false (decide_eq_false (by omega))]
      rfl
theorem packSizes_plain (wk : law19_wakes.f = some true) (l : List Pair) : law19_PackSizes.f l = some true := by
  unfold law19_PackSizes.f
  have guard : ∀ b : Bool, ((bif b then (law19_wakes.f).bind fun y93 => some y93 else none) = some true) ∨ b = false := by
    intro b; cases b
    · exact .inr rfl
    · rw [wk]; exact .inl rfl
  rcases long_ok l with hL | ⟨hL, hlen⟩
  · rw [hL, Option.bind_some, bif_true rfl, Option.bind_some, bif_true rfl, wk]
    rfl
  · rw [hL, Option.bind_some, bif_false rfl]
    rcases may_ok (l := l) (by omega) with ⟨hm, hM⟩ | ⟨hm, hM⟩
    · rw [hM]
      simp only [Option.bind_some, Bool.not_true]
      rw [bif_false rfl, Build2_ok hm (by omega)]
      simp only [Option.bind_some]
      rw [Of_ok hm (by omega)]
      simp only [Option.bind_some, Bool.not_true]
      rw [bif_false rfl]
      by_cases he : l = []
      · subst he
        obtain ⟨B, hB⟩ : ∃ B, BIG = B + 1 := ⟨BIG - 1, by have := BIG_ge; omega⟩
        have e1 : tri ([] : List Pair) = [] := rfl
        have e2 : sheets ([] : List Pair) = [] := rfl
        rw [e1, e2, hB, law19_PackSizes.l0, bif_false (by simp)]
        simp only [Option.bind_some]
        rw [law19_PackSizes.l1, bif_false (by simp)]
        simp only [Option.bind_some]
        have e3 : ((0 : Int) == w64 (0 + w64 (3 * w64 ((([] : List Node).length : Int) - (([] : List Plan).length : Int))))) = true := by decide
        rw [bif_true e3, wk]
        rfl
      · have h0 : 0 < l.length := List.length_pos_iff.mpr he
        have hsz := tre_sz (l := l) (by omega) h0
        have htl := tri_len (l := l) h0
        have hs : sheets l = shs (trp l) (tre l).sz (tre l) 0 0 := by rw [sheets, if_neg he]
        have hsl := shs_le (trp l) (tre l).sz (tre l) 0 0 (tre_lies h0) (tre_ok hm (by omega) h0)
        obtain ⟨v, h1, h2⟩ := shs_bs (trp l) (good_ok hm (by omega)) (by omega) (tre l).sz (tre l) 0 0 (tre_lies h0) (tre_ok hm (by omega) h0) (Nat.le_refl _)
        rw [← hs] at h1 h2 hsl
        have htot : (tre l).tot ≤ 69 * (tre l).sz := by
          have := (T.owns_len (tre l)).2
          have h3 := (T.owns_len (tre l)).1
          have hle : ∀ x ∈ (tre l).owns, x ≤ 69 := by
            intro x hx
            obtain ⟨i, hi⟩ := List.mem_iff_getElem?.mp hx
            exact (T.owns_at (tre l) 0 i _ (tre_lies h0) (tre_ok hm (by omega) h0) hi).2.2
          have hsum : ∀ L : List Nat, (∀ x ∈ L, x ≤ 69) → L.sum ≤ 69 * L.length := by
            intro L
            induction L with
            | nil => simp
            | cons a L ih =>
              intro h
              have := ih fun x hx => h x (List.mem_cons_of_mem _ hx)
              have := h a (List.mem_cons_self ..)
              simp only [List.sum_cons, List.length_cons]
              omega
          have := hsum _ hle
          rw [h3] at this
          omega
        have g0 := sizes_l0 hm (by omega) h0 (y := ⟨tri l, trp l, true⟩) rfl BIG 0 0 (by have := BIG_ge; omega) (by omega) (by omega)
        have g1 := sizes_l1 (a := tri l) (y := ⟨tri l, trp l, true⟩) rfl (P := sheets l) (by omega) BIG 0 0 v (by have := BIG_ge; omega) (by omega) (by rw [List.drop_zero]; exact h1) (by omega)
        rw [show ((0 : Nat) : Int) = 0 from rfl] at g0 g1
        rw [g0]
        simp only [Option.bind_some]
        rw [g1]
        simp only [Option.bind_some, List.drop_zero, Nat.zero_add]
        rw [(T.owns_len (tre l)).2]
        rw [w64_nat (x := ((tri l).length : Int) - ((sheets l).length : Int)) (k := (tri l).length - (sheets l).length) (by omega) (by omega), w64_nat (x := 3 * (((tri l).length - (sheets l).length : Nat) : Int)) (k := 3 * ((tri l).length - (sheets l).length)) (by simp) (by omega), w64_nat (x := (v : Int) + ((3 * ((tri l).length - (sheets l).length) : Nat) : Int)) (k := v + 3 * ((tri l).length - (sheets l).length)) (by simp) (by omega)]
        rw [bif_true (c := ((tre l).tot : Int) == ((v + 3 * ((tri l).length - (sheets l).length) : Nat) : Int)) (by simp; omega), wk]
        rfl
    · rw [hM]
      simp only [Option.bind_some, Bool.not_false]
      rw [bif_true rfl, wk]
      rfl
end Go.Lf
