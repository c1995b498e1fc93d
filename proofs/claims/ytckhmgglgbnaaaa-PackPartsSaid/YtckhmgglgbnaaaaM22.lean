/- PackParts, as a plain law. -/
import Derived.Test.YtckhmgglgbnaaaaM21
import Derived.Test.YtckhmgglgbnaaaaM20
set_option linter.unusedVariables false
set_option linter.unusedSimpArgs false
namespace Go.Lf
open Go
theorem beq0 {n : Nat} (h : 0 < n) : ((n : Int) == 0) = false := by rw [beq_eq_false_iff_ne]; omega
theorem has_l0 {xs : List Int} {v : Int} (hx : xs.length < 1000000000) : ∀ (fuel i : Nat), xs.length - i < fuel → law19_has.l0 xs v fuel i = some (if v ∈ xs.drop i then .inr true else .inl ())
  | 0, i, h => by omega
  | fuel + 1, i, h => by
    rw [law19_has.l0]
    rcases Nat.lt_or_ge i xs.length with hi | hi
    · rw [bif_true (decide_eq_true (by omega)), gd_pos (by omega), w64_nat (x := (i : Int) + 1) (k := i + 1) (by simp) (by omega), drop_cons default hi, gt_nat]
      by_cases hv : xs.getD i default = v
      · rw [bif_true (c := xs.getD i default == v) (by simpa using hv), if_pos (by rw [hv]; exact List.mem_cons_self ..)]
      · rw [bif_false (c := xs.getD i default == v) (by simpa using hv), has_l0 hx fuel (i + 1) (by omega)]
        by_cases hm : v ∈ xs.drop (i + 1)
        · rw [if_pos hm, if_pos (List.mem_cons_of_mem _ hm)]
        · rw [if_neg hm, if_neg]
          intro h
          rcases List.mem_cons.mp h with h | h
          · exact hv h.symm
          · exact hm h
    · rw [bif_false (decide_eq_false (by omega)), List.drop_eq_nil_of_le hi, if_neg (by simp)]
theorem has_ok {xs : List Int} {v : Int} (hx : xs.length < 1000000000) : law19_has.f xs v = some (decide (v ∈ xs)) := by
  unfold law19_has.f
  have h := has_l0 (v := v) hx BIG 0 (by have := BIG_ge; omega)
  rw [List.drop_zero, show ((0 : Nat) : Int) = 0 from rfl] at h
  rw [h]
  by_cases hm : v ∈ xs <;> simp [hm]
theorem minus_l0 {n : Nat} (hn : n < 1000000) : ∀ (fuel i : Nat), n - i < fuel → i ≤ n → law19_PackParts.l0 fuel (List.replicate i (-1) ++ List.replicate (n - i) 0, (i : Int)) = some (List.replicate n (-1))
  | 0, i, h, _ => by omega
  | fuel + 1, i, h, hi => by
    rw [law19_PackParts.l0]
    have hl : (List.replicate i (-1 : Int) ++ List.replicate (n - i) 0).length = n := by simp; omega
    rw [hl]
    rcases Nat.lt_or_ge i n with hlt | hge
    · rw [bif_true (decide_eq_true (by omega)), gd_pos (by omega), w64_nat (x := (i : Int) + 1) (k := i + 1) (by simp) (by omega), Int.toNat_natCast]
      have e : (List.replicate i (-1 : Int) ++ List.replicate (n - i) 0).set i (-1) = List.replicate (i + 1) (-1) ++ List.replicate (n - (i + 1)) 0 := by
        rw [show n - i = (n - (i + 1)) + 1 by omega, List.replicate_succ, List.set_append_right _ _ (by simp), List.length_replicate, Nat.sub_self, List.set_cons_zero, List.replicate_succ', List.append_assoc]
        rfl
      rw [e]
      exact minus_l0 hn fuel (i + 1) (by omega) (by omega)
    · rw [bif_false (decide_eq_false (by omega)), show n - i = 0 by omega, show i = n by omega]
      simp
/-- The nodes, the numbers of a list's sheet. -/
def Nd (P : List Plan) (k : Nat) : List Int := (P.getD k default).nodes_
def Kd (P : List Plan) (k : Nat) : List Int := (P.getD k default).kids_
theorem mem_getD {α : Type} {L : List α} {x d : α} (h : x ∈ L) : ∃ k, k < L.length ∧ L.getD k d = x := by
  obtain ⟨k, hk, rfl⟩ := List.mem_iff_getElem.mp h
  exact ⟨k, hk, by rw [List.getD_eq_getElem?_getD, List.getElem?_eq_getElem hk]; rfl⟩
theorem pw_getD {α : Type} {R : α → α → Prop} {L : List α} {d : α} (h : L.Pairwise R) {i j : Nat} (hij : i < j) (hj : j < L.length) : R (L.getD i d) (L.getD j d) := by
  rw [List.getD_eq_getElem?_getD, List.getD_eq_getElem?_getD, List.getElem?_eq_getElem hj, List.getElem?_eq_getElem (by omega)]
  exact List.pairwise_iff_getElem.mp h i j (by omega) hj hij
theorem take_succ_getD {L : List Int} {i : Nat} (h : i < L.length) : L.take (i + 1) = L.take i ++ [L.getD i default] := by
  rw [List.take_add_one, List.getElem?_eq_getElem h, List.getD_eq_getElem?_getD, List.getElem?_eq_getElem h]
  rfl
theorem rise_new {L : List Int} (h : L.Pairwise (· < ·)) {i : Nat} (hi : i < L.length) : L.getD i default ∉ L.take i := by
  intro hm
  obtain ⟨j, hj, e⟩ := mem_getD (d := default) hm
  rw [List.length_take] at hj
  have e' : (L.take i).getD j default = L.getD j default := by
    rw [List.getD_eq_getElem?_getD, List.getD_eq_getElem?_getD, List.getElem?_take, if_pos (by omega)]
  have := pw_getD (d := default) h (show j < i by omega) hi
  rw [e'] at e
  omega
theorem getD_set {X : List Int} {v u : Nat} {x d : Int} (hv : v < X.length) : (X.set v x).getD u d = if u = v then x else X.getD u d := by
  rw [List.getD_eq_getElem?_getD, List.getD_eq_getElem?_getD, List.getElem?_set]
  split
  · rename_i h
    subst h
    simp [hv]
  · rename_i h
    rw [if_neg (fun e => h e.symm)]
/-- Of each number the list that it stands in: the first k lists are told, and of the next one the first i. -/
structure Told (S : Nat → List Int) (z : Int) (f : Nat → Int) (n k i : Nat) (X : List Int) : Prop where
  len : X.length = n
  new : ∀ v : Nat, v < n → (∀ j, j < k → (v : Int) ∉ S j) → (v : Int) ∉ (S k).take i → X.getD v default = z
  old : ∀ j, j < k → ∀ v : Nat, v < n → (v : Int) ∈ S j → X.getD v default = f j
  now : ∀ v : Nat, v < n → (v : Int) ∈ (S k).take i → X.getD v default = f k
theorem Told.step {S : Nat → List Int} {z : Int} {f : Nat → Int} {n k i : Nat} {X : List Int} (h : Told S z f n k i X) {v : Nat} (hi : i < (S k).length) (hv : (S k).getD i default = (v : Int)) (hn : v < n) (hd : ∀ j, j < k → (v : Int) ∉ S j) : Told S z f n k (i + 1) (X.set v (f k)) := by
  have hl : v < X.length := by rw [h.len]; exact hn
  have ht := take_succ_getD hi
  rw [hv] at ht
  refine ⟨by rw [List.length_set, h.len], fun u hu h1 h2 => ?_, fun j hj u hu h1 => ?_, fun u hu h1 => ?_⟩
  · rw [ht, List.mem_append, List.mem_singleton] at h2
    rw [getD_set hl, if_neg (fun e => h2 (.inr (by rw [e])))]
    exact h.new u hu h1 (fun e => h2 (.inl e))
  · rw [getD_set hl, if_neg (fun e => hd j hj (by rw [← e]; exact h1))]
    exact h.old j hj u hu h1
  · rw [getD_set hl]
    split
    · rfl
    · rename_i hne
      rw [ht, List.mem_append, List.mem_singleton] at h1
      rcases h1 with h1 | h1
      · exact h.now u hu h1
      · exact absurd (by omega) hne
theorem Told.done {S : Nat → List Int} {z : Int} {f : Nat → Int} {n k : Nat} {X : List Int} (h : Told S z f n k (S k).length X) : Told S z f n (k + 1) 0 X := by
  refine ⟨h.len, fun u hu h1 h2 => h.new u hu (fun j hj => h1 j (by omega)) (by rw [List.take_length]; exact h1 k (by omega)), fun j hj u hu h1 => ?_, fun u hu h1 => by simp at h1⟩
  rcases Nat.lt_or_ge j k with hjk | hjk
  · exact h.old j hjk u hu h1
  · have : j = k := by omega
    subst this
    exact h.now u hu (by rw [List.take_length]; exact h1)
section
variable {l : List Pair} (hm : MayP l) (hl : l.length < 10000)
include hm hl
theorem nd_rise {k : Nat} (hk : k < (sheets l).length) : (Nd (sheets l) k).Pairwise (· < ·) := by
  obtain ⟨b, t, e1, e2, e3, e4, e5, e6⟩ := sheets_ent hm hl hk
  obtain ⟨N, hN, hC, -⟩ := gr_cov t b
  unfold Nd
  rw [e3]
  unfold ix
  rw [List.pairwise_map]
  exact hC.asc.1.imp fun h => by omega
theorem nd_rng {k : Nat} (hk : k < (sheets l).length) {v : Int} (hv : v ∈ Nd (sheets l) k) : ∃ n : Nat, v = (n : Int) ∧ n < (tri l).length := by
  obtain ⟨n, h1, -, h2⟩ := (sheets_prt hm hl).rng _ (getD_mem hk) v hv
  exact ⟨n, h1, h2⟩
theorem nd_len {k : Nat} (hk : k < (sheets l).length) : (Nd (sheets l) k).length < 1000000 := by
  obtain ⟨b, t, e1, e2, e3, e4, e5, e6⟩ := sheets_ent hm hl hk
  obtain ⟨s1, s2⟩ := sheets_len hm hl
  obtain ⟨c1, -, -⟩ := T.grow_sum t b ⟨[], t.own, []⟩
  have : (gr t b).nodes.length ≤ t.sz := by
    unfold gr
    simp only [List.length_nil, szs] at c1
    omega
  have := e1.lt
  unfold Nd
  rw [e3, ix_len]
  omega
theorem nd_dis {j k : Nat} (hk : k < (sheets l).length) (hj : j < k) {v : Int} (hv : v ∈ Nd (sheets l) k) : v ∉ Nd (sheets l) j := fun h =>
  pw_getD (sheets_prt hm hl).nod hj hk v h hv
theorem kd_dis {j k : Nat} (hk : k < (sheets l).length) (hj : j < k) {v : Int} (hv : v ∈ Kd (sheets l) k) : v ∉ Kd (sheets l) j := fun h =>
  pw_getD (sheets_prt hm hl).kid hj hk v h hv
theorem parts_l2 {y : ref10_Both_T} (hy : y.t_ = tri l) {k : Nat} (hk : k < (sheets l).length) : ∀ (fuel i : Nat) (X : List Int), (Nd (sheets l) k).length - i < fuel → i ≤ (Nd (sheets l) k).length → Told (Nd (sheets l)) (-1) (fun j => (j : Int)) (tri l).length k i X →
    ∃ Y, law19_PackParts.l2 y (sheets l) k fuel (X, (i : Int)) = some (.inl Y) ∧ Told (Nd (sheets l)) (-1) (fun j => (j : Int)) (tri l).length k (Nd (sheets l) k).length Y
  | 0, i, X, h, _, _ => by omega
  | fuel + 1, i, X, h, hi, hT => by
    have g1 : 0 ≤ (k : Int) ∧ (k : Int) < ((sheets l).length : Int) := by omega
    have e1 : (gt (sheets l) (k : Int)).nodes_ = Nd (sheets l) k := rfl
    have hlen := nd_len hm hl hk
    rw [law19_PackParts.l2, gd_pos g1, e1, gd_pos g1]
    rcases Nat.lt_or_ge i (Nd (sheets l) k).length with hlt | hge
    · have hmem := getD_mem (d := default) hlt
      obtain ⟨v, hv, hvn⟩ := nd_rng hm hl hk hmem
      have hd : ∀ j, j < k → (v : Int) ∉ Nd (sheets l) j := fun j hj => by rw [← hv]; exact nd_dis hm hl hk hj hmem
      have hnew := hT.new v hvn hd (by rw [← hv]; exact rise_new (nd_rise hm hl hk) hlt)
      have e2 : gt (Nd (sheets l) k) (i : Int) = (v : Int) := hv
      have e3 : gt X (v : Int) = -1 := hnew
      have g2 : 0 ≤ (i : Int) ∧ (i : Int) < ((Nd (sheets l) k).length : Int) := by omega
      have g3 : 0 ≤ (v : Int) ∧ (v : Int) < (X.length : Int) := by rw [hT.len]; omega
      rw [bif_true (decide_eq_true g2.2), gd_pos g2, e2, hy, bif_false (decide_eq_false (by omega)), bif_false (decide_eq_false (by omega)), gd_pos g3, e3, Option.bind_some, bif_false (decide_eq_false (by decide)), gd_pos g3, Int.toNat_natCast, w64_nat (x := (i : Int) + 1) (k := i + 1) (by simp) (by omega)]
      exact parts_l2 hy hk fuel (i + 1) _ (by omega) (by omega) (hT.step hlt hv hvn hd)
    · rw [bif_false (decide_eq_false (by omega))]
      have : i = (Nd (sheets l) k).length := by omega
      subst this
      exact ⟨X, rfl, hT⟩
theorem kd_rng {k : Nat} (hk : k < (sheets l).length) {v : Int} (hv : v ∈ Kd (sheets l) k) : ∃ n : Nat, v = (n : Int) ∧ k < n ∧ n < (sheets l).length := by
  obtain ⟨b, t, e1, e2, e3, e4, e5, e6⟩ := sheets_ent hm hl hk
  obtain ⟨k1, k2⟩ := KOK.get e6
  obtain ⟨j, hj, rfl⟩ := mem_getD (d := default) hv
  obtain ⟨m, h1, h2, h3, -⟩ := k2 j hj
  exact ⟨m, h1, h2, h3⟩
theorem parts_l3 {k : Nat} (hk : k < (sheets l).length) : ∀ (fuel i : Nat) (X : List Int), (Kd (sheets l) k).length - i < fuel → i ≤ (Kd (sheets l) k).length → Told (Kd (sheets l)) 0 (fun _ => 1) (sheets l).length k i X →
    ∃ Y, law19_PackParts.l3 (sheets l) k fuel (X, (i : Int)) = some (.inl Y) ∧ Told (Kd (sheets l)) 0 (fun _ => 1) (sheets l).length k (Kd (sheets l) k).length Y
  | 0, i, X, h, _, _ => by omega
  | fuel + 1, i, X, h, hi, hT => by
    have g1 : 0 ≤ (k : Int) ∧ (k : Int) < ((sheets l).length : Int) := by omega
    have e1 : (gt (sheets l) (k : Int)).kids_ = Kd (sheets l) k := rfl
    have hlen : (Kd (sheets l) k).length < 1000000 := kids_len hm hl hk
    obtain ⟨s1, s2⟩ := sheets_len hm hl
    rw [law19_PackParts.l3, gd_pos g1, e1, gd_pos g1]
    rcases Nat.lt_or_ge i (Kd (sheets l) k).length with hlt | hge
    · have hmem := getD_mem (d := default) hlt
      obtain ⟨v, hv, hvk, hvn⟩ := kd_rng hm hl hk hmem
      have hrise := (sheets_prt hm hl).krise _ (getD_mem (d := default) hk)
      have hd : ∀ j, j < k → (v : Int) ∉ Kd (sheets l) j := fun j hj => by rw [← hv]; exact kd_dis hm hl hk hj hmem
      have hnew := hT.new v hvn hd (by rw [← hv]; exact rise_new hrise hlt)
      have e2 : gt (Kd (sheets l) k) (i : Int) = (v : Int) := hv
      have e3 : gt X (v : Int) = 0 := hnew
      have g2 : 0 ≤ (i : Int) ∧ (i : Int) < ((Kd (sheets l) k).length : Int) := by omega
      have g3 : 0 ≤ (v : Int) ∧ (v : Int) < (X.length : Int) := by rw [hT.len]; omega
      have e4 : w64 ((0 : Int) + 1) = 1 := by decide
      rw [bif_true (decide_eq_true g2.2), gd_pos g2, e2, bif_false (decide_eq_false (by omega)), gd_pos g1, gd_pos g2, bif_false (decide_eq_false (by omega))]
      have hlast : (bif decide ((i : Int) > 0) then
                gd (0 ≤ (k : Int) ∧ (k : Int) < ((sheets l).length : Int)) <|
                gd (0 ≤ (i : Int) ∧ (i : Int) < ((Kd (sheets l) k).length : Int)) <|
                gd (0 ≤ (k : Int) ∧ (k : Int) < ((sheets l).length : Int)) <|
                gd (0 ≤ w64 ((i : Int) - 1) ∧ w64 ((i : Int) - 1) < ((Kd (sheets l) k).length : Int)) <|
                some (decide ((v : Int) ≤ (gt (Kd (sheets l) k) (w64 ((i : Int) - 1)))))
              else
                some false) = some false := by
        by_cases h0 : 0 < i
        · have h1 : w64 ((i : Int) - 1) = ((i - 1 : Nat) : Int) := w64_nat (by omega) (by omega)
          rw [bif_true (decide_eq_true (by omega)), gd_pos g1, gd_pos g2, gd_pos g1, h1, gd_pos (by omega)]
          have := pw_getD (d := default) hrise (show i - 1 < i by omega) hlt
          have e5 : gt (Kd (sheets l) k) ((i - 1 : Nat) : Int) = (Kd (sheets l) k).getD (i - 1) default := rfl
          have e6 : (Kd (sheets l) k).getD (i - 1) default < (Kd (sheets l) k).getD i default := this
          rw [hv] at e6
          rw [e5, decide_eq_false (by omega)]
        · rw [bif_false (decide_eq_false (by omega))]
      rw [hlast, Option.bind_some, bif_false rfl, gd_pos g1, gd_pos g2, gd_pos g3, gd_pos g3, e3, e4, Int.toNat_natCast, w64_nat (x := (i : Int) + 1) (k := i + 1) (by simp) (by omega)]
      exact parts_l3 hk fuel (i + 1) _ (by omega) (by omega) (hT.step hlt hv hvn hd)
    · rw [bif_false (decide_eq_false (by omega))]
      have : i = (Kd (sheets l) k).length := by omega
      subst this
      exact ⟨X, rfl, hT⟩
theorem sheet_bytes {k : Nat} (hk : k < (sheets l).length) : ∃ r : Nat, pack_Bytes.f (tri l) ((sheets l).getD k default) = some ((r : Int), true) ∧ 3 ≤ r ∧ r ≤ 243 ∧ (Nd (sheets l) k).getD 0 default = ((sheets l).getD k default).top_ ∧ 0 < (Nd (sheets l) k).length := by
  obtain ⟨b, t, e1, e2, e3, e4, e5, e6⟩ := sheets_ent hm hl hk
  obtain ⟨N, hN, hS⟩ := gr_shn e1 e2
  have hnl := nd_len hm hl hk
  have hnd : Nd (sheets l) k = ix (gr t b).nodes := e3
  rw [hnd, hN] at hnl ⊢
  simp only [ix, List.length_map, List.length_cons] at hnl
  obtain ⟨r, h3, h4⟩ := Bytes_ok (a := tri l) (p := (sheets l).getD k default) (by rw [e3, hN]) (by omega) hS (good_ok hm hl)
  obtain ⟨-, f2⟩ := T.grow_full t b ⟨[], t.own, []⟩ e2 ⟨by simp, by simp⟩ (by simp [ows])
  have f3 := (T.grow_len t b ⟨[], t.own, []⟩).2
  have hown := T.own_le e2
  have hge := T.own_ge t
  have f4 : (gr t b).used ≤ 243 := f3 (by show t.own ≤ 243; omega)
  have f5 : (gr t b).used + 3 * (gr t b).nodes.length = ows (gr t b).nodes + 3 := f2
  rw [hN] at f5
  simp only [List.length_cons, ows] at f5
  have hows : ∀ L : List (Nat × T), 3 * L.length ≤ ows L := by
    intro L
    induction L with
    | nil => simp [ows]
    | cons a L ih =>
      have := T.own_ge a.2
      simp only [ows, List.length_cons]
      omega
  have := hows N
  simp only at h4
  exact ⟨r, h3, by omega, by omega, by rw [e4]; rfl, by simp [ix]⟩
theorem parts_l1 {y : ref10_Both_T} (hy : y.t_ = tri l) (hp : y.p_ = trp l) : ∀ (fuel k : Nat) (X Z : List Int), (sheets l).length - k < fuel → k ≤ (sheets l).length → Told (Nd (sheets l)) (-1) (fun j => (j : Int)) (tri l).length k 0 X → Told (Kd (sheets l)) 0 (fun _ => 1) (sheets l).length k 0 Z →
    ∃ X' Z', law19_PackParts.l1 y (sheets l) fuel (X, Z, (k : Int)) = some (.inl (X', Z')) ∧ Told (Nd (sheets l)) (-1) (fun j => (j : Int)) (tri l).length (sheets l).length 0 X' ∧ Told (Kd (sheets l)) 0 (fun _ => 1) (sheets l).length (sheets l).length 0 Z'
  | 0, k, X, Z, h, _, _, _ => by omega
  | fuel + 1, k, X, Z, h, hk', hX, hZ => by
    obtain ⟨s1, s2⟩ := sheets_len hm hl
    rw [law19_PackParts.l1]
    rcases Nat.lt_or_ge k (sheets l).length with hk | hge
    · have g1 : 0 ≤ (k : Int) ∧ (k : Int) < ((sheets l).length : Int) := by omega
      obtain ⟨r, b1, b2, b3, b4, b5⟩ := sheet_bytes hm hl hk
      have hkl : (Kd (sheets l) k).length < 1000000 := kids_len hm hl hk
      have hnl := nd_len hm hl hk
      have e0 : gt (sheets l) (k : Int) = (sheets l).getD k default := rfl
      have e1 : ((sheets l).getD k default).nodes_ = Nd (sheets l) k := rfl
      have e2 : gt (Nd (sheets l) k) 0 = ((sheets l).getD k default).top_ := b4
      obtain ⟨Y, c1, c2⟩ := parts_l2 hm hl hy hk BIG 0 X (by have := BIG_ge; omega) (Nat.zero_le _) hX
      obtain ⟨W, d1, d2⟩ := parts_l3 hm hl hk BIG 0 Z (by have := BIG_ge; omega) (Nat.zero_le _) hZ
      rw [show ((0 : Nat) : Int) = 0 from rfl] at c1 d1
      have htop : (bif decide ((k : Int) > 0) then
                      gd (0 ≤ (k : Int) ∧ (k : Int) < ((sheets l).length : Int)) <|
                      gd (0 ≤ w64 ((k : Int) - 1) ∧ w64 ((k : Int) - 1) < ((sheets l).length : Int)) <|
                      some (decide ((((sheets l).getD k default).top_) ≤ ((gt (sheets l) (w64 ((k : Int) - 1))).top_)))
                    else
                      some false) = some false := by
        by_cases h0 : 0 < k
        · have h1 : w64 ((k : Int) - 1) = ((k - 1 : Nat) : Int) := w64_nat (by omega) (by omega)
          rw [bif_true (decide_eq_true (by omega)), gd_pos g1, h1, gd_pos (by omega)]
          have := pw_getD (d := default) (sheets_prt hm hl).top (show k - 1 < k by omega) hk
          have e5 : gt (sheets l) ((k - 1 : Nat) : Int) = (sheets l).getD (k - 1) default := rfl
          rw [e5, decide_eq_false (by omega)]
        · rw [bif_false (decide_eq_false (by omega))]
      obtain ⟨b, t, f1, f2, f3, f4, f5, f6⟩ := sheets_ent hm hl hk
      have hbl := f1.lt
      have hsz := T.sz_pos t
      have hpre : gt (trp l) (((sheets l).getD k default).top_) = ((sheets l).getD k default).prefix_ := by rw [f4, f5]; rfl
      have hseq : seq_ (((sheets l).getD k default).prefix_) (((sheets l).getD k default).prefix_) = true := by rw [seq_B]; simp
      rw [bif_true (decide_eq_true g1.2), gd_pos g1, e0, hy, b1]
      simp only [Option.bind_some, Bool.not_true]
      rw [bif_false rfl, bif_false (decide_eq_false (by omega)), bif_false (decide_eq_false (by omega)), gd_pos g1, e1, bif_false (c := (((Nd (sheets l) k).length : Int) == 0)) (beq0 b5), gd_pos g1, gd_pos (by omega), gd_pos g1, e2, bif_false (c := (((sheets l).getD k default).top_ != ((sheets l).getD k default).top_)) (by simp), htop, Option.bind_some, bif_false rfl, c1]
      simp only [Option.bind_some]
      rw [gd_pos g1, gd_pos g1, hp, gd_pos (by rw [trp_len, f4]; omega), hpre, hseq, Bool.not_true, bif_false rfl, d1]
      simp only [Option.bind_some]
      rw [w64_nat (x := (k : Int) + 1) (k := k + 1) (by simp) (by omega)]
      exact parts_l1 hy hp fuel (k + 1) Y W (by omega) (by omega) c2.done d2.done
    · rw [bif_false (decide_eq_false (by omega))]
      have : k = (sheets l).length := by omega
      subst this
      exact ⟨X, Z, rfl, hX, hZ⟩
theorem nd_all {i : Nat} (hi : i < (tri l).length) : ∃ k, k < (sheets l).length ∧ (i : Int) ∈ Nd (sheets l) k := by
  obtain ⟨p, hp, h⟩ := (sheets_prt hm hl).all i (Nat.zero_le _) hi
  obtain ⟨k, hk, rfl⟩ := mem_getD (d := default) hp
  exact ⟨k, hk, h⟩
theorem parts_l5 {y : ref10_Both_T} (hy : y.t_ = tri l) {X : List Int} (hX : Told (Nd (sheets l)) (-1) (fun j => (j : Int)) (tri l).length (sheets l).length 0 X) {i k : Nat} (hi : i < (tri l).length) (hk : k < (sheets l).length) (hik : (i : Int) ∈ Nd (sheets l) k) :
    ∀ (fuel c : Nat), 16 - c < fuel → law19_PackParts.l5 y (sheets l) X i fuel (c : Int) = some (.inl ())
  | 0, c, h => by omega
  | fuel + 1, c, h => by
    rw [law19_PackParts.l5]
    rcases Nat.lt_or_ge c 16 with hc | hc
    · have h1 := sheet_kid hm hl hk hik hc
      have g1 : 0 ≤ (i : Int) ∧ (i : Int) < ((tri l).length : Int) := by omega
      have g1' : 0 ≤ (i : Int) ∧ (i : Int) < (X.length : Int) := by rw [hX.len]; exact g1
      have ei : gt X (i : Int) = (k : Int) := hX.old k hk i hi hik
      rw [bif_true (decide_eq_true (by omega)), hy, gd_pos g1, gd_pos (by omega)]
      generalize hv : vg (gt (tri l) (i : Int)).kids_ (c : Int) = v at *
      have hkl : (Kd (sheets l) k).length < 1000000 := kids_len hm hl hk
      have key : (
          bif v != 0 then
            gd (0 ≤ v ∧ v < (X.length : Int)) <|
            gd (0 ≤ (i : Int) ∧ (i : Int) < (X.length : Int)) <|
            bif (gt X v) != (gt X (i : Int)) then
              gd (0 ≤ v ∧ v < (X.length : Int)) <|
              gd (0 ≤ gt X v ∧ gt X v < ((sheets l).length : Int)) <|
              bif v != ((gt (sheets l) (gt X v)).top_) then
                some true
              else
                gd (0 ≤ (i : Int) ∧ (i : Int) < (X.length : Int)) <|
                gd (0 ≤ gt X (i : Int) ∧ gt X (i : Int) < ((sheets l).length : Int)) <|
                gd (0 ≤ v ∧ v < (X.length : Int)) <|
                (law19_has.f ((gt (sheets l) (gt X (i : Int))).kids_) (gt X v)).bind fun y2164 =>
                some (!y2164)
            else
              some false
          else
            some false) = some false := by
        by_cases h0 : v = 0
        · rw [bif_false (c := v != 0) (by simp [h0])]
        · rw [bif_true (c := v != 0) (by simpa using h0)]
          rcases h1 with h1 | h1 | ⟨m, m1, m2, m3⟩
          · exact absurd h1 h0
          · obtain ⟨u, rfl, hu⟩ := nd_rng hm hl hk h1
            have eu : gt X (u : Int) = (k : Int) := hX.old k hk u hu h1
            rw [gd_pos (by rw [hX.len]; omega), gd_pos g1', eu, ei, bif_false (c := (k : Int) != (k : Int)) (by simp)]
          · have hmem : v ∈ Nd (sheets l) m := by rw [← m3]; exact (sheets_prt hm hl).hd _ (getD_mem (d := default) m2)
            obtain ⟨u, rfl, hu⟩ := nd_rng hm hl m2 hmem
            have eu : gt X (u : Int) = (m : Int) := hX.old m m2 u hu hmem
            have gu : 0 ≤ (u : Int) ∧ (u : Int) < (X.length : Int) := by rw [hX.len]; omega
            rw [gd_pos gu, gd_pos g1', eu, ei]
            by_cases hmk : m = k
            · rw [hmk, bif_false (c := (k : Int) != (k : Int)) (by simp)]
            · have e5 : (gt (sheets l) (m : Int)).top_ = (u : Int) := m3
              have e6 : (gt (sheets l) (k : Int)).kids_ = Kd (sheets l) k := rfl
              rw [bif_true (c := (m : Int) != (k : Int)) (by simp; omega), gd_pos gu, gd_pos (by omega), e5, bif_false (c := (u : Int) != (u : Int)) (by simp), gd_pos g1', gd_pos (by omega), gd_pos gu, e6, has_ok (by omega), decide_eq_true (show (m : Int) ∈ Kd (sheets l) k from m1)]
              rfl
      rw [key, Option.bind_some, bif_false rfl, w64_nat (x := (c : Int) + 1) (k := c + 1) (by simp) (by omega)]
      exact parts_l5 hy hX hi hk hik fuel (c + 1) (by omega)
    · rw [bif_false (decide_eq_false (by omega))]
theorem parts_l4 {y : ref10_Both_T} (hy : y.t_ = tri l) {X : List Int} (hX : Told (Nd (sheets l)) (-1) (fun j => (j : Int)) (tri l).length (sheets l).length 0 X) :
    ∀ (fuel i : Nat), (tri l).length - i < fuel → law19_PackParts.l4 y (sheets l) X fuel (i : Int) = some (.inl ())
  | 0, i, h => by omega
  | fuel + 1, i, h => by
    obtain ⟨s1, s2⟩ := sheets_len hm hl
    rw [law19_PackParts.l4, hy]
    rcases Nat.lt_or_ge i (tri l).length with hi | hi
    · obtain ⟨k, hk, hik⟩ := nd_all hm hl hi
      have ei : gt X (i : Int) = (k : Int) := hX.old k hk i hi hik
      have h5 := parts_l5 hm hl hy hX hi hk hik BIG 0 (by have := BIG_ge; omega)
      rw [show ((0 : Nat) : Int) = 0 from rfl] at h5
      rw [bif_true (decide_eq_true (by omega)), gd_pos (by rw [hX.len]; omega), ei, bif_false (decide_eq_false (by omega)), h5]
      simp only [Option.bind_some]
      rw [w64_nat (x := (i : Int) + 1) (k := i + 1) (by simp) (by omega)]
      exact parts_l4 hy hX fuel (i + 1) (by omega)
    · rw [bif_false (decide_eq_false (by omega))]
theorem parts_l6 {Z : List Int} (hZ : Told (Kd (sheets l)) 0 (fun _ => 1) (sheets l).length (sheets l).length 0 Z) :
    ∀ (fuel k : Nat), (sheets l).length - k < fuel → law19_PackParts.l6 Z fuel (k : Int) = some (.inl ())
  | 0, k, h => by omega
  | fuel + 1, k, h => by
    obtain ⟨s1, s2⟩ := sheets_len hm hl
    rw [law19_PackParts.l6, hZ.len]
    rcases Nat.lt_or_ge k (sheets l).length with hk | hk
    · have key : (((gt Z (k : Int)) == 1) == (decide ((k : Int) > 0))) = true := by
        by_cases h0 : 0 < k
        · obtain ⟨p, hp, h1⟩ := (sheets_prt hm hl).kall k h0 (by omega)
          obtain ⟨j, hj, rfl⟩ := mem_getD (d := default) hp
          have e : gt Z (k : Int) = 1 := hZ.old j hj k hk h1
          rw [e, decide_eq_true (show (k : Int) > 0 by omega)]
          rfl
        · have e : gt Z (k : Int) = 0 := hZ.new k hk (fun j hj hm' => by
            obtain ⟨n, e1, e2, e3⟩ := kd_rng hm hl hj hm'
            omega) (by simp)
          rw [e, decide_eq_false (show ¬ (k : Int) > 0 by omega)]
          rfl
      rw [bif_true (decide_eq_true (by omega)), gd_pos (by omega), key, Bool.not_true, bif_false rfl, w64_nat (x := (k : Int) + 1) (k := k + 1) (by simp) (by omega)]
      exact parts_l6 hZ fuel (k + 1) (by omega)
    · rw [bif_false (decide_eq_false (by omega))]
end
theorem packParts_plain (wk : law19_wakes.f = some true) (l : List Pair) : law19_PackParts.f l = some true := by
  unfold law19_PackParts.f
  rcases long_ok l with hL | ⟨hL, hlen⟩
  · rw [hL, Option.bind_some, bif_true rfl, Option.bind_some, bif_true rfl, wk]
    rfl
  · rw [hL, Option.bind_some, bif_false rfl]
    rcases may_ok (l := l) (by omega) with ⟨hm, hM⟩ | ⟨hm, hM⟩
    · have hl : l.length < 10000 := by omega
      rw [hM]
      simp only [Option.bind_some, Bool.not_true]
      rw [bif_false rfl, Build2_ok hm (by omega)]
      simp only [Option.bind_some]
      rw [Of_ok hm hl]
      simp only [Option.bind_some, Bool.not_true]
      rw [bif_false rfl]
      obtain ⟨s1, s2⟩ := sheets_len hm hl
      have hP := sheets_prt hm hl
      have hz : ((((sheets l).length : Int) == 0) == (((tri l).length : Int) == 0)) = true := by
        by_cases h0 : (tri l).length = 0
        · have : (sheets l).length = 0 := by omega
          rw [this, h0]
          rfl
        · obtain ⟨p, hp, -⟩ := hP.all 0 (Nat.zero_le _) (by omega)
          have := List.length_pos_of_mem hp
          rw [beq0 (n := (sheets l).length) (by omega), beq0 (n := (tri l).length) (by omega)]
          rfl
      rw [hz, Bool.not_true, Option.bind_some, bif_false rfl, gd_pos (by omega)]
      have h0 := minus_l0 (n := (tri l).length) (by omega) BIG 0 (by have := BIG_ge; omega) (Nat.zero_le _)
      rw [show ((0 : Nat) : Int) = 0 from rfl, List.replicate_zero, List.nil_append, Nat.sub_zero] at h0
      rw [Int.toNat_natCast, h0, Option.bind_some, gd_pos (by omega)]
      obtain ⟨X, Z, h1, hX, hZ⟩ := parts_l1 hm hl (y := ⟨tri l, trp l, true⟩) rfl rfl BIG 0 (List.replicate (tri l).length (-1)) (List.replicate (sheets l).length 0) (by have := BIG_ge; omega) (Nat.zero_le _)
        ⟨by simp, fun v hv _ _ => by simp [List.getD_eq_getElem?_getD, hv], fun j hj => by omega, fun v _ h => by simp at h⟩
        ⟨by simp, fun v hv _ _ => by simp [List.getD_eq_getElem?_getD, hv], fun j hj => by omega, fun v _ h => by simp at h⟩
      have h4 := parts_l4 hm hl (y := ⟨tri l, trp l, true⟩) rfl hX BIG 0 (by have := BIG_ge; omega)
      have h6 := parts_l6 hm hl hZ BIG 0 (by have := BIG_ge; omega)
      rw [show ((0 : Nat) : Int) = 0 from rfl] at h1 h4 h6
      rw [Int.toNat_natCast, h1]
      simp only [Option.bind_some]
      rw [h4]
      simp only [Option.bind_some]
      rw [h6]
      simp only [Option.bind_some]
      rw [wk]
      rfl
    · rw [hM]
      simp only [Option.bind_some, Bool.not_false]
      rw [bif_true rfl, wk]
      rfl
end Go.Lf
