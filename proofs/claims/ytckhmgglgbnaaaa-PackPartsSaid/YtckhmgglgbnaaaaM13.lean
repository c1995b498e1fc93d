/- The program makes the sheets. -/
import Derived.Test.YtckhmgglgbnaaaaM12
set_option linter.unusedVariables false
set_option linter.unusedSimpArgs false
namespace Go.Lf
open Go
theorem shL_le {rc : T → Nat → Nat → List Plan} {a : List Node} (h : ∀ t b me, Lies a b t → t.ok → (rc t b me).length ≤ t.sz) : ∀ (x : List (Nat × T)) (nx : Nat), Sts a x → (shL rc x nx).2.length ≤ szs x
  | [], nx, _ => Nat.le_refl _
  | x :: r, nx, hs => by
    have h1 := shL_le h r (nx + (rc x.2 x.1 nx).length) (fun y hy => hs y (List.mem_cons_of_mem _ hy))
    obtain ⟨l1, l2⟩ := hs x (List.mem_cons_self ..)
    have := h x.2 x.1 nx l1 l2
    simp only [shL, List.length_append, szs]
    omega
theorem shs_le {a : List Node} (pp : List ByteArray) : ∀ (k : Nat) (t : T) (b me : Nat), Lies a b t → t.ok → (shs pp k t b me).length ≤ t.sz
  | 0, t, b, me, _, _ => Nat.zero_le _
  | k + 1, t, b, me, hl, ho => by
    have h1 := shL_le (a := a) (shs_le pp k) (gr t b).tops (me + 1) (gr_sts hl ho).2
    have h2 := gr_tops (b := b) ho
    simp only [shs, List.length_cons]
    omega
theorem sheet_l0 {a : List Node} {pp : List ByteArray} {tops : List (Nat × T)} {rc : (List Node) → (List ByteArray) → (List Plan) → Int → Option (Int × List Plan)} {R : T → Nat → Nat → List Plan} (hs : Sts a tops)
    (hR : ∀ t b me, Lies a b t → t.ok → (R t b me).length ≤ t.sz)
    (hrc : ∀ x ∈ tops, ∀ sh : List Plan, sh.length + x.2.sz ≤ 1000000000 → rc a pp sh (x.1 : Int) = some ((sh.length : Int), sh ++ R x.2 x.1 sh.length)) (hn : tops.length ≤ 1000000000) :
    ∀ (fuel j : Nat) (kids : List Int) (sh : List Plan), tops.length - j < fuel → j ≤ tops.length → kids.length = j → sh.length + szs (tops.drop j) ≤ 1000000000 →
      pack_packer_sheet.l0 a pp (ix tops) rc fuel (kids, sh, j) = some (kids ++ (shL R (tops.drop j) sh.length).1, sh ++ (shL R (tops.drop j) sh.length).2)
  | 0, j, kids, sh, h, _, _, _ => by omega
  | fuel + 1, j, kids, sh, h, hj, hk, hz => by
    rw [pack_packer_sheet.l0]
    have hil : (ix tops).length = tops.length := by simp [ix]
    rcases Nat.lt_or_ge j tops.length with hlt | hge
    · have hx : gt (ix tops) (j : Int) = ((tops.getD j default).1 : Int) := by
        simp [gt, ix, List.getD_eq_getElem?_getD, List.getElem?_eq_getElem hlt]
      have hmem : tops.getD j default ∈ tops := by
        rw [List.getD_eq_getElem?_getD, List.getElem?_eq_getElem hlt]
        exact List.getElem_mem hlt
      rw [drop_cons default hlt] at hz ⊢
      simp only [szs] at hz
      obtain ⟨l1, l2⟩ := hs _ hmem
      have hle := hR _ _ sh.length l1 l2
      rw [bif_true (decide_eq_true (by omega)), gd_pos (by omega), hx, hrc _ hmem sh (by omega)]
      simp only [Option.bind_some]
      rw [gd_pos (by omega), w64_nat (x := (j : Int) + 1) (k := j + 1) (by simp) (by omega)]
      rw [sheet_l0 hs hR hrc hn fuel (j + 1) _ _ (by omega) (by omega) (by simp; omega) (by simp only [List.length_append]; omega)]
      simp [shL]
    · rw [bif_false (decide_eq_false (by omega)), List.drop_eq_nil_of_le hge]
      simp [shL]
theorem ix_len (x : List (Nat × T)) : (ix x).length = x.length := by simp [ix]
theorem len_le_szs : ∀ x : List (Nat × T), x.length ≤ szs x
  | [] => Nat.le_refl _
  | y :: x => by
    have := len_le_szs x
    have := T.sz_pos y.2
    simp only [List.length_cons, szs]
    omega
theorem szs_mem : ∀ {x : List (Nat × T)} {y : Nat × T}, y ∈ x → y.2.sz ≤ szs x
  | z :: x, y, h => by
    rw [szs]
    rcases List.mem_cons.mp h with rfl | h
    · omega
    · have := szs_mem h; omega
theorem sheet_ok {a : List Node} (ha : a.length ≤ 1000000) {pp : List ByteArray} (hp : pp.length = a.length) : ∀ (k kk : Nat) (t : T) (b : Nat) (sh : List Plan), Lies a b t → t.ok → t.sz ≤ k → k ≤ kk → sh.length + t.sz ≤ 1000000000 →
    pack_packer_sheet.f kk a pp sh (b : Int) = some ((sh.length : Int), sh ++ shs pp k t b sh.length)
  | 0, kk, t, b, sh, hl, ho, hk, _, _ => by have := T.sz_pos t; omega
  | k + 1, 0, t, b, sh, hl, ho, hk, hkk, _ => by omega
  | k + 1, kk + 1, t, b, sh, hl, ho, hk, hkk, hsh => by
    have hlt := hl.lt
    have hpos := T.sz_pos t
    have hown := T.own_le ho
    have htops := gr_tops (b := b) ho
    obtain ⟨hs1, hs2⟩ := gr_sts hl ho
    rw [pack_packer_sheet.f, gd_pos (by omega), size_ok hl ho, Option.bind_some]
    have hg := T.growR (by omega) (pp := pp) (sh := sh) t b BIG hl ho (by have := BIG_ge; omega) ⟨[], t.own, []⟩ (by show t.own ≤ 243; omega) (Nat.zero_le _)
    have hg' : pack_packer_grow.f BIG a pp sh ([] : List Int) ((t.own : Nat) : Int) ([] : List Int) (b : Int) = some (((gr t b).used : Int), ix (gr t b).nodes, ix (gr t b).tops) := hg
    rw [hg']
    simp only [Option.bind_some]
    have hz := len_le_szs (gr t b).tops
    rw [gd_pos (by omega), gd_pos (by omega)]
    have h := sheet_l0 hs2 (R := shs pp k) (shs_le pp k) (rc := pack_packer_sheet.f kk) (pp := pp) (fun x hx sh hsz => sheet_ok ha hp k kk x.2 x.1 sh (hs2 x hx).1 (hs2 x hx).2 (by have := szs_mem hx; omega) (by omega) hsz) (by omega) BIG 0 [] (sh ++ [⟨⟨#[]⟩, 0, [], []⟩]) (by have := BIG_ge; omega) (Nat.zero_le _) rfl (by simp only [List.length_append, List.length_singleton, List.drop_zero]; omega)
    rw [show ((0 : Nat) : Int) = 0 from rfl] at h
    rw [h]
    simp only [Option.bind_some, List.nil_append, List.drop_zero, List.append_assoc, List.singleton_append, List.length_append, List.length_singleton]
    rw [gd_pos (by simp; omega), set_end]
    simp only [shs, tx_gt]
end Go.Lf
