/- PackNear, as a plain law. -/
import Derived.Test.YtckhmgglgbnaaaaM23
import Derived.Test.YtckhmgglgbnaaaaM20
set_option linter.unusedVariables false
set_option linter.unusedSimpArgs false
namespace Go.Lf
open Go
theorem ints_same {X : List Int} (hX : X.length < 1000000000) : keep_Ints.f X X = some true := by
  have h0 : ∀ (fuel i : Nat), X.length - i < fuel → keep_Ints.l0 X X fuel (i : Int) = some (.inl ()) := by
    intro fuel
    induction fuel with
    | zero => intro i h; omega
    | succ fuel ih =>
      intro i h
      rw [keep_Ints.l0]
      rcases Nat.lt_or_ge i X.length with hi | hi
      · rw [bif_true (decide_eq_true (by omega)), gd_pos (by omega), gd_pos (by omega), bif_false (c := gt X (i : Int) != gt X (i : Int)) (by simp), w64_nat (x := (i : Int) + 1) (k := i + 1) (by simp) (by omega)]
        exact ih (i + 1) (by omega)
      · rw [bif_false (decide_eq_false (by omega))]
  unfold keep_Ints.f
  have h := h0 BIG 0 (by have := BIG_ge; omega)
  rw [show ((0 : Nat) : Int) = 0 from rfl] at h
  rw [bif_false (c := (X.length : Int) != (X.length : Int)) (by simp), h]
  rfl
theorem plans_same {P : List Plan} (hP : P.length < 1000000000) (hp : ∀ p ∈ P, p.nodes_.length < 1000000000 ∧ p.kids_.length < 1000000000) : keep_Plans.f P P = some true := by
  have h0 : ∀ (fuel i : Nat), P.length - i < fuel → keep_Plans.l0 P P fuel (i : Int) = some (.inl ()) := by
    intro fuel
    induction fuel with
    | zero => intro i h; omega
    | succ fuel ih =>
      intro i h
      rw [keep_Plans.l0]
      rcases Nat.lt_or_ge i P.length with hi | hi
      · have hm : gt P (i : Int) ∈ P := by
          rw [gt_nat, List.getD_eq_getElem?_getD, List.getElem?_eq_getElem hi]; exact List.getElem_mem hi
        obtain ⟨p1, p2⟩ := hp _ hm
        have g1 : 0 ≤ (i : Int) ∧ (i : Int) < (P.length : Int) := by omega
        have hs : seq_ (gt P (i : Int)).prefix_ (gt P (i : Int)).prefix_ = true := by rw [seq_B]; simp
        rw [bif_true (decide_eq_true (by omega)), gd_pos g1, gd_pos g1, hs, Bool.not_true, bif_false rfl, gd_pos g1, gd_pos g1, bif_false (c := (gt P (i : Int)).top_ != (gt P (i : Int)).top_) (by simp), gd_pos g1, gd_pos g1, ints_same p1, ints_same p2]
        simp only [Option.bind_some, Bool.not_true]
        rw [bif_false rfl, gd_pos g1, gd_pos g1, Option.bind_some, bif_false rfl, w64_nat (x := (i : Int) + 1) (k := i + 1) (by simp) (by omega)]
        exact ih (i + 1) (by omega)
      · rw [bif_false (decide_eq_false (by omega))]
  unfold keep_Plans.f
  have h := h0 BIG 0 (by have := BIG_ge; omega)
  rw [show ((0 : Nat) : Int) = 0 from rfl] at h
  rw [bif_false (c := (P.length : Int) != (P.length : Int)) (by simp), h]
  rfl
theorem sheets_same {l : List Pair} (hm : MayP l) (hl : l.length < 10000) : keep_Plans.f (sheets l) (sheets l) = some true := by
  obtain ⟨s1, s2⟩ := sheets_len hm hl
  refine plans_same (by omega) fun p hp => ?_
  obtain ⟨k, hk, rfl⟩ := List.mem_iff_getElem.mp hp
  have e : (sheets l).getD k default = (sheets l)[k] := by rw [List.getD_eq_getElem?_getD, List.getElem?_eq_getElem hk]; rfl
  have h1 := kids_len hm hl hk
  obtain ⟨b, t, e1, e2, e3, e4, e5, e6⟩ := sheets_ent hm hl hk
  rw [e] at h1 e3
  refine ⟨?_, by omega⟩
  obtain ⟨c1, -, -⟩ := T.grow_sum t b ⟨[], t.own, []⟩
  have : (gr t b).nodes.length ≤ t.sz := by
    unfold gr
    simp only [List.length_nil, szs] at c1
    omega
  have := e1.lt
  rw [e3, ix_len]
  omega
theorem key_bp (l : List Pair) (i : Nat) : key (l.map bp) i = key l i := by
  unfold key
  rw [List.getD_eq_getElem?_getD, List.getD_eq_getElem?_getD, List.getElem?_map]
  cases l[i]? <;> rfl
theorem may_bp {l m : List Pair} (h : m.map bp = l.map bp) (hm : MayP l) : MayP m := fun i hi => by
  have hlen : m.length = l.length := by simpa using congrArg List.length h
  have hk : ∀ j, key m j = key l j := fun j => by rw [← key_bp, h, key_bp]
  have hv : (val m i).size = (val l i).size := by rw [← zs_size, ← val_bp, h, val_bp, zs_size]
  unfold MayI
  rw [hk, hk, hv]
  exact hm i (by omega)
theorem near_l0 {a2 : Int} : ∀ (fuel i : Nat) (X : List Int), X.length < 1000000000 → X.length - i < fuel → ∃ Y, law19_PackNear.l0 a2 fuel (X, (i : Int)) = some Y ∧ Y.length = X.length
  | 0, i, X, _, h => by omega
  | fuel + 1, i, X, hX, h => by
    rw [law19_PackNear.l0]
    rcases Nat.lt_or_ge i X.length with hi | hi
    · rw [bif_true (decide_eq_true (by omega)), gd_pos (by omega), gd_pos (by omega), w64_nat (x := (i : Int) + 1) (k := i + 1) (by simp) (by omega)]
      obtain ⟨Y, h1, h2⟩ := near_l0 fuel (i + 1) (X.set (i : Int).toNat (bxor .u8 (gt X (i : Int)) a2)) (by rw [List.length_set]; exact hX) (by rw [List.length_set]; omega)
      exact ⟨Y, h1, by rw [h2, List.length_set]⟩
    · rw [bif_false (decide_eq_false (by omega))]
      exact ⟨X, rfl, rfl⟩
theorem near_bp {l : List Pair} {k : Nat} (hk : k < l.length) {v : ByteArray} (hv : v.size = (val l k).size) : (l.set k { gt l (k : Int) with value_ := v }).map bp = l.map bp := by
  rw [List.map_set]
  apply List.ext_getElem?
  intro i
  rw [List.getElem?_set]
  split
  · rename_i h
    subst h
    rw [if_pos (by simpa using hk), List.getElem?_map, List.getElem?_eq_getElem hk, Option.map_some]
    have e : gt l (k : Int) = l[k] := by rw [gt_nat, List.getD_eq_getElem?_getD, List.getElem?_eq_getElem hk]; rfl
    have e2 : val l k = (l[k]).value_ := by unfold val; rw [← gt_nat, e]
    rw [e2] at hv
    rw [e]
    unfold bp
    simp only [zs_eq hv]
  · rfl
theorem packNear_plain (wk : law19_wakes.f = some true) (l : List Pair) (a1 a2 : Int) (ha : 0 ≤ a1 ∧ a1 ≤ 255) : law19_PackNear.f l a1 a2 = some true := by
  unfold law19_PackNear.f
  rcases long_ok l with hL | ⟨hL, hlen⟩
  · rw [hL, Option.bind_some, bif_true rfl, Option.bind_some, bif_true rfl, wk]
    rfl
  · rw [hL, Option.bind_some, bif_false rfl]
    rcases may_ok (l := l) (by omega) with ⟨hm, hM⟩ | ⟨hm, hM⟩
    · have hl : l.length < 10000 := by omega
      rw [hM, Option.bind_some, Bool.not_true, bif_false rfl, Option.bind_some]
      by_cases h0 : l.length = 0
      · rw [bif_true (c := (l.length : Int) == 0) (by simpa using h0), wk]
        rfl
      · have hw : w64 a1 = a1 := w64_id (by omega)
        obtain ⟨k, hk⟩ : ∃ k : Nat, a1.tmod (l.length : Int) = (k : Int) := ⟨(a1.tmod (l.length : Int)).toNat, by have := Int.tmod_nonneg (l.length : Int) ha.1; omega⟩
        have hkl : k < l.length := by
          have := Int.tmod_lt_of_pos a1 (show (0 : Int) < (l.length : Int) by omega)
          omega
        rw [bif_false (c := (l.length : Int) == 0) (by simpa using h0), List.nil_append, gd_pos (by simp; omega), gd_pos (by omega), hw, hk]
        have g1 : 0 ≤ (k : Int) ∧ (k : Int) < (l.length : Int) := by omega
        have hv := (hm k hkl).2.2.1
        have hv' : (gt l (k : Int)).value_ = val l k := rfl
        obtain ⟨Y, y1, y2⟩ := near_l0 (a2 := a2) BIG 0 (nums (val l k)) (by rw [nums_len]; omega) (by rw [nums_len]; have := BIG_ge; omega)
        rw [show ((0 : Nat) : Int) = 0 from rfl] at y1
        rw [gd_pos g1, hv', gd_pos (by omega), y1, Option.bind_some, gd_pos g1, Build2_ok hm (by omega)]
        simp only [Option.bind_some]
        rw [Of_ok hm hl]
        simp only [Option.bind_some, Int.toNat_natCast]
        have hb := near_bp hkl (v := strOfNums Y) (by rw [strOfNums_size, y2, nums_len])
        generalize hmm : l.set k { gt l (k : Int) with value_ := strOfNums Y } = m at *
        have hlm : m.length = l.length := by rw [← hmm, List.length_set]
        have hm' := may_bp hb hm
        rw [Build2_ok hm' (by omega)]
        simp only [Option.bind_some]
        rw [Of_ok hm' (by omega)]
        simp only [Option.bind_some]
        rw [bif_true rfl, bif_true rfl, sheets_near hb, sheets_same hm hl]
        simp only [Option.bind_some]
        rw [bif_true rfl, wk]
        rfl
    · rw [hM]
      simp only [Option.bind_some, Bool.not_false]
      rw [bif_true rfl, Option.bind_some, bif_true rfl, wk]
      rfl
end Go.Lf
