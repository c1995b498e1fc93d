/- The document's word on any list of nodes; both words are one. -/
import Derived.Test.YtckhmgglgbnaaaaDoorM56
set_option linter.unusedVariables false
set_option linter.unusedSimpArgs false
namespace Go.Lf
open Go
theorem rkey_l0 {s : ByteArray} (hs : s.size ≤ 16) : ∀ (fuel i : Nat) (acc : List Int), s.size - i < fuel → acc.length ≤ i → ∃ r, ref02_Key.l0 s fuel (acc, (i : Int)) = some r
 | 0, i, acc, h, _ => by omega
 | fuel + 1, i, acc, h, ha => by
  rw [ref02_Key.l0]
  rcases Nat.lt_or_ge i s.size with hi | hi
  ·have e1 : w64 ((i : Int) + 1) = ((i + 1 : Nat) : Int) := w64_nat (by simp) (by omega)
   have hc : ∃ c, (gd (0 ≤ (i : Int) ∧ (i : Int) < (s.size : Int)) <|
     bif decide ((bt s (i : Int)) > 15) then
      some true
     else
      some (((s.size : Int).tmod 2) != 0)) = some c := by
    rw [gd_pos (by omega)]
    cases decide ((bt s (i : Int)) > 15)
    ·exact ⟨_, rfl⟩
    ·exact ⟨_, rfl⟩
   obtain ⟨c, hc⟩ := hc
   rw [bif_true (decide_eq_true (by omega)), hc, Option.bind_some, e1]
   cases c
   ·rw [bif_false rfl]
    by_cases ho : i % 2 = 1
    ·have t1 : (((i : Nat) : Int).tmod 2 == 1) = true := by
      have : ((i : Nat) : Int).tmod 2 = ((i % 2 : Nat) : Int) := by rw [show (2 : Int) = ((2 : Nat) : Int) from rfl, ← Int.ofNat_tmod]
      rw [this, ho]
      rfl
     have e0 : w64 ((i : Int) - 1) = ((i - 1 : Nat) : Int) := w64_nat (by omega) (by omega)
     rw [t1, bif_true rfl, e0, gd_pos (by omega), gd_pos (by omega), gd_pos (by omega)]
     simp only [Option.bind_some]
     exact rkey_l0 hs fuel (i + 1) _ (by omega) (by simp; omega)
    ·have t0 : (((i : Nat) : Int).tmod 2 == 1) = false := by
      have : ((i : Nat) : Int).tmod 2 = ((i % 2 : Nat) : Int) := by rw [show (2 : Int) = ((2 : Nat) : Int) from rfl, ← Int.ofNat_tmod]
      rw [this, show i % 2 = 0 by omega]
      rfl
     rw [t0, bif_false rfl]
     simp only [Option.bind_some]
     exact rkey_l0 hs fuel (i + 1) acc (by omega) (by omega)
   ·rw [bif_true rfl]
    exact ⟨_, rfl⟩
  ·rw [bif_false (decide_eq_false (by omega))]
   exact ⟨_, rfl⟩
theorem rkey_any {s : ByteArray} (hs : s.size ≤ 16) : ∃ r, ref02_Key.f s = some r := by
 unfold ref02_Key.f
 obtain ⟨r, h⟩ := rkey_l0 hs BIG 0 [] (by have := BIG_ge; omega) (by simp)
 rw [show ((0 : Nat) : Int) = 0 from rfl] at h
 rw [h]
 cases r
 ·exact ⟨_, rfl⟩
 ·exact ⟨_, rfl⟩
def Sz (to : List ByteArray) : Prop := ∀ j : Nat, (to.getD j default).size ≤ 17
theorem Sz.set {to : List ByteArray} (h : Sz to) {v : Nat} {x : ByteArray} (hv : v < to.length) (hx : x.size ≤ 17) : Sz (to.set v x) := by
 intro j
 rw [getD_setN hv]
 split
 ·exact hx
 ·exact h j
theorem rk_l1 {a : List Node} {tf : List ByteArray} {f : Nat} (ha : a.length ≤ 1000) {q : ByteArray} (hq : gt tf (f : Int) ++ (gt a (f : Int)).path_ = q) (hqs : q.size ≤ 16) :
  ∀ (fuel m : Nat) (met : List Bool) (to : List ByteArray), 16 - m < fuel → met.length = a.length → to.length = a.length → Sz to →
   (∃ met' to', ref10_Pairs.l1 a tf f fuel (met, to, (m : Int)) = some (.inl (met', to')) ∧ met'.length = a.length ∧ to'.length = a.length ∧ Sz to') ∨ ∃ g, ref10_Pairs.l1 a tf f fuel (met, to, (m : Int)) = some (.inr g) ∧ g.ok_ = false
 | 0, m, met, to, h, _, _, _ => by omega
 | fuel + 1, m, met, to, h, hml, htl, hsz => by
  rw [ref10_Pairs.l1]
  rcases Nat.lt_or_ge m 16 with h16 | h16
  ·rw [bif_true (decide_eq_true (by omega)), gd_pos (by omega), w64_nat (x := (m : Int) + 1) (k := m + 1) (by simp) (by omega)]
   by_cases h0 : vg (gt a (f : Int)).kids_ (m : Int) = 0
   ·rw [h0, bif_true (c := (0 : Int) == 0) rfl]
    simp only [Option.bind_some]
    exact rk_l1 ha hq hqs fuel (m + 1) met to (by omega) hml htl hsz
   ·rw [bif_false (c := vg (gt a (f : Int)).kids_ (m : Int) == 0) (by simpa using h0)]
    by_cases h1 : vg (gt a (f : Int)).kids_ (m : Int) ≤ (f : Int)
    ·rw [bif_true (decide_eq_true h1), Option.bind_some, bif_true rfl]
     exact .inr ⟨_, rfl, rfl⟩
    ·rw [bif_false (decide_eq_false h1)]
     by_cases h2 : vg (gt a (f : Int)).kids_ (m : Int) ≥ (a.length : Int)
     ·rw [bif_true (decide_eq_true h2), Option.bind_some, bif_true rfl]
      exact .inr ⟨_, rfl, rfl⟩
     ·obtain ⟨bk, hbk⟩ : ∃ bk : Nat, vg (gt a (f : Int)).kids_ (m : Int) = (bk : Int) := ⟨(vg (gt a (f : Int)).kids_ (m : Int)).toNat, by omega⟩
      rw [bif_false (decide_eq_false h2)]
      rw [hbk] at h0 h1 h2 ⊢
      rw [gd_pos (by omega)]
      cases hg : gt met (bk : Int)
      ·have hset1 : (to.set bk q).length = a.length := by rw [List.length_set, htl]
       have hgs : gt (to.set bk q) (bk : Int) = q := by rw [gt_nat, getD_setN (by omega), if_pos rfl]
       rw [Option.bind_some, bif_false rfl, gd_pos (by omega), gd_pos (by omega), Int.toNat_natCast, hq]
       cases (gt a (f : Int)).kind_ == 3
       ·rw [bif_false rfl]
        simp only [Option.bind_some]
        exact rk_l1 ha hq hqs fuel (m + 1) _ _ (by omega) (by rw [List.length_set]; exact hml) hset1 (hsz.set (by omega) (by omega))
       ·rw [bif_true rfl, hset1, gd_pos (by omega), hgs, gd_pos (by rw [strOfNums_size]; simp; omega), gd_pos (by omega)]
        simp only [Option.bind_some]
        exact rk_l1 ha hq hqs fuel (m + 1) _ _ (by omega) (by rw [List.length_set]; exact hml) (by rw [List.length_set]; exact hset1) ((hsz.set (by omega) (by omega)).set (by omega) (by rw [app_size, strOfNums_size]; simp; omega))
      ·rw [Option.bind_some, bif_true rfl]
       exact .inr ⟨_, rfl, rfl⟩
  ·rw [bif_false (decide_eq_false (by omega))]
   exact .inl ⟨_, _, rfl, hml, htl, hsz⟩
theorem rp_l0 {a : List Node} (hz : Sm a) : ∀ (fuel i : Nat) (met : List Bool) (L : List Pair) (to : List ByteArray), a.length - i < fuel → i ≤ a.length → L.length ≤ i → met.length = a.length → to.length = a.length → Sz to →
   (∃ met' L' to', ref10_Pairs.l0 a fuel (met, L, to, (i : Int)) = some (.inl (met', L', to')) ∧ L'.length ≤ a.length) ∨ ∃ g, ref10_Pairs.l0 a fuel (met, L, to, (i : Int)) = some (.inr g) ∧ g.ok_ = false
 | 0, i, met, L, to, h, _, _, _, _, _ => by omega
 | fuel + 1, i, met, L, to, h, hi', hL, hml, htl, hsz => by
  obtain ⟨z1, z2⟩ := hz
  have zi := z2 i
  have zt : (gt to (i : Int)).size ≤ 17 := hsz i
  rw [ref10_Pairs.l0]
  rcases Nat.lt_or_ge i a.length with hi | hi
  ·have hc : ∃ c, (bif decide ((i : Int) > 0) then
      gd (0 ≤ (i : Int) ∧ (i : Int) < (met.length : Int)) <|
      some (!(gt met (i : Int)))
     else
      some false) = some c := by
    by_cases h0 : 0 < i
    ·rw [bif_true (decide_eq_true (by omega)), gd_pos (by omega)]
     exact ⟨_, rfl⟩
    ·rw [bif_false (decide_eq_false (by omega))]
     exact ⟨_, rfl⟩
   obtain ⟨c, hc⟩ := hc
   rw [bif_true (decide_eq_true (by omega)), hc, Option.bind_some]
   cases c
   ·rw [bif_false rfl, gd_pos (by omega), gd_pos (by omega), gd_pos (by omega)]
    by_cases c1 : (gt a (i : Int)).path_.size ≤ 16
    ·rw [bif_false (decide_eq_false (by omega)), Option.bind_some]
     by_cases c2 : (gt to (i : Int) ++ (gt a (i : Int)).path_).size ≤ 16
     ·rw [bif_false (decide_eq_false (by omega))]
      have go : ∀ L1 : List Pair, L1.length ≤ i + 1 → (∃ met' L' to', ((ref10_Pairs.l1 a to (i : Int) BIG (met, to, 0)).bind fun
      | .inl (y8868, y8873) =>
       ref10_Pairs.l0 a fuel (y8868, L1, y8873, w64 ((i : Int) + 1))
      | .inr r9049 =>
       some (.inr r9049)) = some (.inl (met', L', to')) ∧ L'.length ≤ a.length) ∨ ∃ g, ((ref10_Pairs.l1 a to (i : Int) BIG (met, to, 0)).bind fun
      | .inl (y8868, y8873) =>
       ref10_Pairs.l0 a fuel (y8868, L1, y8873, w64 ((i : Int) + 1))
      | .inr r9049 =>
       some (.inr r9049)) = some (.inr g) ∧ g.ok_ = false := fun L1 hL1 => by
       rcases rk_l1 (a := a) (tf := to) (f := i) z1 rfl c2 BIG 0 met to (by have := BIG_ge; omega) hml htl hsz with ⟨m1, t1, g1, g2, g3, g4⟩ | ⟨g, g1, g2⟩
       ·rw [show ((0 : Nat) : Int) = 0 from rfl] at g1
        rw [g1]
        simp only [Option.bind_some]
        rw [w64_nat (x := (i : Int) + 1) (k := i + 1) (by simp) (by omega)]
        exact rp_l0 ⟨z1, z2⟩ fuel (i + 1) m1 L1 t1 (by omega) (by omega) hL1 g2 g3 g4
       ·rw [show ((0 : Nat) : Int) = 0 from rfl] at g1
        rw [g1]
        exact .inr ⟨_, rfl, g2⟩
      cases hh : (gt a (i : Int)).has_
      ·rw [bif_false rfl]
       simp only [Option.bind_some]
       exact go L (by omega)
      ·obtain ⟨r, hr⟩ := rkey_any c2
       rw [bif_true rfl, hr, Option.bind_some]
       cases hro : r.ok_
       ·rw [bif_true (c := !false) rfl]
        exact .inr ⟨_, rfl, rfl⟩
       ·rw [bif_false (c := !true) rfl, gd_pos (by omega)]
        simp only [Option.bind_some]
        exact go _ (by simp; omega)
     ·rw [bif_true (decide_eq_true (by omega))]
      exact .inr ⟨_, rfl, rfl⟩
    ·rw [bif_true (decide_eq_true (by omega)), Option.bind_some, bif_true rfl]
     exact .inr ⟨_, rfl, rfl⟩
   ·rw [bif_true rfl]
    exact .inr ⟨_, rfl, rfl⟩
  ·rw [bif_false (decide_eq_false (by omega))]
   exact .inl ⟨_, _, _, rfl, by omega⟩
theorem rsame2_l0 {x y : List Node} (hx : x.length < 1000000000) (hxy : x.length = y.length) : ∀ (fuel i : Nat), x.length - i < fuel → (ref10_Same.l0 x y fuel (i : Int) = some (.inl ()) ∧ x.drop i = y.drop i) ∨ ref10_Same.l0 x y fuel (i : Int) = some (.inr false)
 | 0, i, h => by omega
 | fuel + 1, i, h => by
  rw [ref10_Same.l0]
  rcases Nat.lt_or_ge i x.length with hi | hi
  ·rw [bif_true (decide_eq_true (by omega)), gd_pos (by omega), gd_pos (by omega), gt_nat, gt_nat, w64_nat (x := (i : Int) + 1) (k := i + 1) (by simp) (by omega)]
   unfold eq_Node
   rw [drop_cons default hi, drop_cons default (show i < y.length by omega)]
   by_cases he : x.getD i default = y.getD i default
   ·rw [decide_eq_true he, bif_false (c := !true) rfl]
    rcases rsame2_l0 hx hxy fuel (i + 1) (by omega) with ⟨h1, h2⟩ | h1
    ·exact .inl ⟨h1, by rw [he, h2]⟩
    ·exact .inr h1
   ·rw [decide_eq_false he, bif_true (c := !false) rfl]
    exact .inr rfl
  ·rw [bif_false (decide_eq_false (by omega)), List.drop_eq_nil_of_le hi, List.drop_eq_nil_of_le (by omega)]
   exact .inl ⟨rfl, rfl⟩
theorem rsame_any {x y : List Node} (hx : x.length < 1000000000) : ∃ g, ref10_Same.f x y = some g ∧ (g = true → x = y) := by
 unfold ref10_Same.f
 by_cases hl : x.length = y.length
 ·rw [bif_false (c := (x.length : Int) != (y.length : Int)) (by simp [hl])]
  have h := rsame2_l0 hx hl BIG 0 (by have := BIG_ge; omega)
  rw [show ((0 : Nat) : Int) = 0 from rfl, List.drop_zero, List.drop_zero] at h
  rcases h with ⟨h1, h2⟩ | h1
  ·rw [h1]; exact ⟨_, rfl, fun _ => h2⟩
  ·rw [h1]; exact ⟨_, rfl, fun h => by cases h⟩
 ·rw [bif_true (c := (x.length : Int) != (y.length : Int)) (by simp; omega)]
  exact ⟨_, rfl, fun h => by cases h⟩
theorem rgood_any {a : List Node} (hz : Sm a) : ∃ g, ref10_Good.f a = some g ∧ Yes a g := by
 unfold ref10_Good.f ref10_Pairs.f
 have z1 := hz.1
 rw [gd_pos (by omega), gd_pos (by omega), Int.toNat_natCast]
 rcases rp_l0 hz BIG 0 (List.replicate a.length false) [] (List.replicate a.length ⟨#[]⟩) (by have := BIG_ge; omega) (by omega) (by simp) (by simp) (by simp) (fun j => by
  rw [List.getD_eq_getElem?_getD, List.getElem?_replicate]
  split <;> decide) with ⟨m1, L, t1, g1, g2⟩ | ⟨g, g1, g2⟩
 ·rw [show ((0 : Nat) : Int) = 0 from rfl] at g1
  rw [g1]
  simp only [Option.bind_some]
  by_cases hm : MayP L
  ·rw [Build2_ok hm (by omega), Option.bind_some, bif_false (c := !true) rfl]
   have hts := tri_short (l := L) (by omega)
   obtain ⟨g, h1, h2⟩ := rsame_any (x := tri L) (y := a) (by omega)
   rw [h1]
   cases g
   ·exact ⟨false, rfl, fun h => by cases h⟩
   ·exact ⟨true, rfl, fun _ => ⟨L, hm, g2, (h2 rfl).symm⟩⟩
  ·have hb : ref10_Build.f L = some ⟨[], [], false⟩ := by
    unfold ref10_Build.f
    rcases may_ok (l := L) (by omega) with ⟨h, -⟩ | ⟨-, h⟩
    ·exact absurd h hm
    ·rw [h]; rfl
   rw [hb]
   exact ⟨false, rfl, fun h => by cases h⟩
 ·rw [show ((0 : Nat) : Int) = 0 from rfl] at g1
  rw [g1]
  refine ⟨g.ok_, rfl, fun h => ?_⟩
  rw [g2] at h
  cases h
/-- The program and the document say the same of any list of nodes: no, or that it is a trie of pairs. -/
theorem good_any {a : List Node} (hz : Sm a) : (trie_Good.f a = some false ∧ ref10_Good.f a = some false) ∨ ∃ l, MayP l ∧ l.length ≤ 1000 ∧ a = tri l := by
 have z1 := hz.1
 obtain ⟨g, g1, g2⟩ := tgood_any hz
 obtain ⟨g', g3, g4⟩ := rgood_any hz
 cases g
 ·cases g'
  ·exact .inl ⟨g1, g3⟩
  ·obtain ⟨l, h1, h2, h3⟩ := g4 rfl
   exact .inr ⟨l, h1, by omega, h3⟩
 ·obtain ⟨l, h1, h2, h3⟩ := g2 rfl
  exact .inr ⟨l, h1, by omega, h3⟩
end Go.Lf
