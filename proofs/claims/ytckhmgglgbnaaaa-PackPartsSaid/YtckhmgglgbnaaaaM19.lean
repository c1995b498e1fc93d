/- PackFull, as a plain law. -/
import Derived.Test.YtckhmgglgbnaaaaM18
set_option linter.unusedVariables false
set_option linter.unusedSimpArgs false
namespace Go.Lf
open Go
theorem gtP (P : List Plan) (k : Nat) : gt P (k : Int) = P.getD k default := rfl
theorem part_l2 {P : List Plan} {k j m : Nat} (hk : k < P.length) (hj : j < (P.getD k default).kids_.length) {L pr po : List (Nat × T)} {y : Nat × T} (hn : (P.getD k default).nodes_ = ix L) (hL : L = pr ++ po)
    (hq : (P.getD k default).kids_.getD j default = (m : Int)) (htop : (P.getD m default).top_ = (y.1 : Int)) (h1 : ∀ x ∈ pr, x.1 < y.1) (h2 : ∀ x ∈ po, y.1 < x.1) (hlen : L.length < 1000000) :
    ∀ (fuel i : Nat), pr.length - i < fuel → i ≤ pr.length → law19_PackFull.l2 P k j fuel (ix (pr.take i), (i : Int)) = some (ix pr)
  | 0, i, h, _ => by omega
  | fuel + 1, i, h, hi => by
    have hlL : L.length = pr.length + po.length := by rw [hL]; simp
    have g1 : 0 ≤ (k : Int) ∧ (k : Int) < (P.length : Int) := by omega
    have e1 : gt ((gt P (k : Int)).kids_) (j : Int) = (m : Int) := hq
    have e2 : (gt P (k : Int)).nodes_ = ix L := hn
    have e3 : (gt P (m : Int)).top_ = (y.1 : Int) := htop
    have hil := ix_len L
    rw [law19_PackFull.l2, gd_pos g1, e1, e2, e3, gd_pos g1]
    rcases Nat.lt_or_ge i L.length with hlt | hge
    · have g2 : 0 ≤ (i : Int) ∧ (i : Int) < ((ix L).length : Int) := by omega
      rw [bif_true (decide_eq_true g2.2), gd_pos g2, Option.bind_some, ix_gt hlt]
      rcases Nat.lt_or_ge i pr.length with hip | hip
      · have hx : L.getD i default = pr.getD i default := by rw [hL, List.getD_eq_getElem?_getD, List.getD_eq_getElem?_getD, List.getElem?_append_left hip]
        have hmem : pr.getD i default ∈ pr := by
          rw [List.getD_eq_getElem?_getD, List.getElem?_eq_getElem hip]; exact List.getElem_mem hip
        have := h1 _ hmem
        rw [hx, bif_true (decide_eq_true (by omega)), gd_pos g1, gd_pos g2, gd_pos (by simp [ix]; omega), w64_nat (x := (i : Int) + 1) (k := i + 1) (by simp) (by omega)]
        have e4 : ix (pr.take i) ++ [((pr.getD i default).1 : Int)] = ix (pr.take (i + 1)) := by
          rw [List.take_add_one, List.getElem?_eq_getElem hip, ix_app]
          simp [ix, List.getD_eq_getElem?_getD, List.getElem?_eq_getElem hip]
        rw [e4]
        exact part_l2 hk hj hn hL hq htop h1 h2 hlen fuel (i + 1) (by omega) (by omega)
      · have hip' : i = pr.length := by omega
        have hx : L.getD i default = po.getD 0 default := by rw [hL, List.getD_eq_getElem?_getD, List.getD_eq_getElem?_getD, List.getElem?_append_right hip, hip', Nat.sub_self]
        have hpo : 0 < po.length := by omega
        have hmem : po.getD 0 default ∈ po := by
          rw [List.getD_eq_getElem?_getD, List.getElem?_eq_getElem hpo]; exact List.getElem_mem hpo
        have := h2 _ hmem
        rw [hx, bif_false (decide_eq_false (by omega)), hip', List.take_length]
    · rw [bif_false (decide_eq_false (by omega)), Option.bind_some, bif_false rfl]
      have : i = pr.length := by omega
      rw [this, List.take_length]
theorem full_part {a : List Node} {t : T} {b : Nat} (hl : Lies a b t) (ho : t.ok) {y : Nat × T} (hy : y ∈ (gr t b).tops) {pr po : List (Nat × T)} (hL : (gr t b).nodes = pr ++ po) (h1 : ∀ x ∈ pr, x.1 < y.1) (h2 : ∀ x ∈ po, y.1 < x.1) (h3 : 243 + 3 * pr.length < ows pr + y.2.own) :
    ∃ N, pr = (b, t) :: N ∧ Shn a (b, t) N := by
  obtain ⟨N, hN, hS⟩ := gr_shn hl ho
  rw [hN] at hL
  cases pr with
  | nil =>
    have := T.own_le ((gr_sts hl ho).2 y hy).2
    simp [ows] at h3
    omega
  | cons x pr =>
    simp only [List.cons_append, List.cons.injEq] at hL
    obtain ⟨rfl, hL⟩ := hL
    refine ⟨pr, rfl, fun z hz => hS.sts z ?_, ⟨?_, fun z hz => hS.asc.2 z ?_⟩, fun z hz => ?_⟩
    · rw [hL]
      rcases List.mem_cons.mp hz with rfl | hz
      · exact List.mem_cons_self ..
      · exact List.mem_cons_of_mem _ (List.mem_append_left _ hz)
    · exact hS.asc.1.sublist (by rw [hL]; exact List.sublist_append_left ..)
    · rw [hL]; exact List.mem_append_left _ hz
    · obtain ⟨w, hw, hp⟩ := hS.par z (by rw [hL]; exact List.mem_append_left _ hz)
      obtain ⟨l1, l2⟩ := hS.sts w hw
      have hz0 := (hS.asc.2 z (by rw [hL]; exact List.mem_append_left _ hz)).1
      have := kid_gt l1 l2 (par_kid l1 (by omega) hp)
      have hzy := h1 z (List.mem_cons_of_mem _ hz)
      refine ⟨w, ?_, hp⟩
      rw [hL] at hw
      rcases List.mem_cons.mp hw with rfl | hw
      · exact List.mem_cons_self ..
      · rcases List.mem_append.mp hw with hw | hw
        · exact List.mem_cons_of_mem _ hw
        · have := h2 w hw
          omega
theorem full_l1 {l : List Pair} (hm : MayP l) (hl : l.length < 10000) {y : ref10_Both_T} (hy : y.t_ = tri l) {k : Nat} (hk : k < (sheets l).length) : ∀ (fuel j : Nat), ((sheets l).getD k default).kids_.length - j < fuel → law19_PackFull.l1 y (sheets l) k fuel (j : Int) = some (.inl ())
  | 0, j, h => by omega
  | fuel + 1, j, h => by
    obtain ⟨b, t, e1, e2, e3, e4, e5, e6⟩ := sheets_ent hm hl hk
    obtain ⟨s1, s2⟩ := sheets_len hm hl
    obtain ⟨k1, k2⟩ := KOK.get e6
    have htops := gr_tops (b := b) e2
    have hsz := e1.lt
    have hls := len_le_szs (gr t b).tops
    have g1 : 0 ≤ (k : Int) ∧ (k : Int) < ((sheets l).length : Int) := by omega
    have hkk : (gt (sheets l) (k : Int)).kids_ = ((sheets l).getD k default).kids_ := rfl
    rw [law19_PackFull.l1, gd_pos g1, hkk]
    rcases Nat.lt_or_ge j ((sheets l).getD k default).kids_.length with hj | hj
    · obtain ⟨m, hq, hq1, hq2, hq3⟩ := k2 j hj
      have g2 : 0 ≤ (j : Int) ∧ (j : Int) < ((((sheets l).getD k default).kids_).length : Int) := by omega
      have hmem : (gr t b).tops.getD j default ∈ (gr t b).tops := by
        rw [List.getD_eq_getElem?_getD, List.getElem?_eq_getElem (by omega)]; exact List.getElem_mem _
      obtain ⟨l1, l2⟩ := (gr_sts e1 e2).2 _ hmem
      obtain ⟨pr, po, f1, f2, f3, f4⟩ := gr_full e2 _ hmem
      obtain ⟨N, hN, hS⟩ := full_part e1 e2 hmem f1 f2 f3 f4
      have hlt := l1.lt
      have hpos := T.sz_pos ((gr t b).tops.getD j default).2
      have hown := T.own_le l2
      have how := T.own_ge ((gr t b).tops.getD j default).2
      have hnl : (gr t b).nodes.length < 1000000 := by
        obtain ⟨c1, -, -⟩ := T.grow_sum t b ⟨[], t.own, []⟩
        have : (gr t b).nodes.length ≤ t.sz := by
          unfold gr
          simp only [List.length_nil, szs] at c1
          omega
        omega
      have hq' : gt (((sheets l).getD k default).kids_) (j : Int) = (m : Int) := hq
      have hq3' : (gt (sheets l) (m : Int)).top_ = (((gr t b).tops.getD j default).1 : Int) := hq3
      rw [bif_true (decide_eq_true g2.2), gd_pos g1, gd_pos g2, hq', bif_false (decide_eq_false (by omega)), gd_pos g1, gd_pos g2, Option.bind_some, bif_false (decide_eq_false (by omega)), gd_pos g1, gd_pos g2, gd_pos (by omega), hq3', hy]
      rw [Size_ok hm hl (by omega), size_ok l1 l2]
      simp only [Option.bind_some]
      have h2 := part_l2 hk hj e3 f1 hq hq3 f2 f3 hnl BIG 0 (by have := BIG_ge; rw [f1] at hnl; simp only [List.length_append] at hnl; omega) (Nat.zero_le _)
      rw [List.take_zero, show ((0 : Nat) : Int) = 0 from rfl] at h2
      have h2' : law19_PackFull.l2 (sheets l) (k : Int) (j : Int) BIG (([] : List Int), 0) = some (ix pr) := h2
      rw [h2']
      simp only [Option.bind_some]
      rw [f1, hN] at hnl
      simp only [List.length_append, List.length_cons] at hnl
      obtain ⟨r, h3, h4⟩ := Bytes_ok (a := tri l) (p := ⟨⟨#[]⟩, 0, ix pr, []⟩) (by show ix pr = _; rw [hN]) (by omega) hS (good_ok hm hl)
      rw [h3]
      simp only [Option.bind_some, Bool.not_true]
      rw [hN] at f4
      simp only [List.length_cons, ows] at f4 h4
      have hr : r ≤ 100000000 := by
        have : ∀ L : List (Nat × T), Sts (tri l) L → ows L ≤ 69 * L.length := by
          intro L
          induction L with
          | nil => simp [ows]
          | cons a L ih =>
            intro h
            have := ih fun x hx => h x (List.mem_cons_of_mem _ hx)
            have := T.own_le (h a (List.mem_cons_self ..)).2
            simp only [ows, List.length_cons]
            omega
        have h5 := this N fun x hx => hS.sts x (List.mem_cons_of_mem _ hx)
        have h6 := T.own_le e2
        omega
      rw [bif_false rfl, bif_false rfl, w64_nat (x := (r : Int) + (((gr t b).tops.getD j default).2.own : Int)) (k := r + ((gr t b).tops.getD j default).2.own) (by simp) (by omega), w64_nat (k := r + ((gr t b).tops.getD j default).2.own - 3) (by omega) (by omega), Option.bind_some, bif_false (decide_eq_false (by omega)), w64_nat (x := (j : Int) + 1) (k := j + 1) (by simp) (by omega)]
      exact full_l1 hm hl hy hk fuel (j + 1) (by omega)
    · rw [bif_false (decide_eq_false (by omega))]
end Go.Lf
