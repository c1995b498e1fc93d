/- The program's and the document's word on any list of nodes: both say yes just to tries of pairs. -/
import Derived.Test.YtckhmgglgbnaaaaDoorMB
set_option linter.unusedVariables false
set_option linter.unusedSimpArgs false
namespace Go.Lf
open Go
/-- Lists of nodes that are gone through here. -/
def Sm (a : List Node) : Prop := a.length ≤ 1000 ∧ ∀ i : Nat, (gt a (i : Int)).path_.size ≤ 100000
def Bd (a : List Node) (n : Nat) (i : Int) (L : List Pair) (ps : List ByteArray) : Prop := ∃ n' : Nat, i = (n' : Int) ∧ n ≤ n' ∧ n' ≤ a.length ∧ L.length ≤ n' ∧ ps.length ≤ n'
theorem Bd.mono {a : List Node} {n m : Nat} {i : Int} {L : List Pair} {ps : List ByteArray} (h : Bd a n i L ps) (hm : m ≤ n) : Bd a m i L ps := by
 obtain ⟨n', h1, h2, h3⟩ := h
 exact ⟨n', h1, by omega, h3⟩
def WT (a : List Node) (kk : Nat) (rc : Rec) : Prop := ∀ (n : Nat) (L : List Pair) (ps : List ByteArray) (k : Int) (p : ByteArray), a.length - n < kk → n ≤ a.length → L.length ≤ n → ps.length ≤ n → p.size ≤ 200000 → ∃ b i L' ps', rc a (n : Int) L ps k p = some (b, i, L', ps') ∧ Bd a n i L' ps'
theorem wpair_ok {a : List Node} {n : Int} {L : List Pair} {ps : List ByteArray} {s v : ByteArray} (hs : s.size < 1000000) (hL : L.length < 1000000) : ∃ b L', trie_walker_pair.f a n L ps s v = some (b, L') ∧ L'.length = L.length + 1 := by
 unfold trie_walker_pair.f
 rcases key_ok (s := s) hs with ⟨-, -, h⟩ | ⟨-, h⟩
 ·rw [h]
  simp only [Option.bind_some]
  rw [gd_pos (by omega)]
  exact ⟨_, _, rfl, by simp⟩
 ·rw [h]
  simp only [Option.bind_some]
  rw [gd_pos (by omega)]
  exact ⟨_, _, rfl, by simp⟩
theorem wt_l0 {a : List Node} (hz : Sm a) {f : Nat} {p : ByteArray} (hp : p.size ≤ 16) {kk : Nat} {rc : Rec} (hrc : WT a kk rc) : ∀ (fuel m n : Nat) (L : List Pair) (ps : List ByteArray), 16 - m < fuel → a.length - n < kk → n ≤ a.length → L.length ≤ n → ps.length ≤ n →
  (∃ L' ps' i, trie_walker_walk.l0 a f p rc fuel (L, ps, (n : Int), (m : Int)) = some (.inl (L', ps', i)) ∧ Bd a n i L' ps') ∨ (∃ b i L' ps', trie_walker_walk.l0 a f p rc fuel (L, ps, (n : Int), (m : Int)) = some (.inr (b, i, L', ps')) ∧ Bd a n i L' ps')
 | 0, m, n, L, ps, h, _, _, _, _ => by omega
 | fuel + 1, m, n, L, ps, h, hk, hn, hL, hps => by
  obtain ⟨z1, z2⟩ := hz
  have zf := z2 f
  rw [trie_walker_walk.l0]
  rcases Nat.lt_or_ge m 16 with h16 | h16
  ·rw [bif_true (decide_eq_true (by omega)), gd_pos (by omega)]
   have hq : ∃ q : ByteArray, (bif (gt a (f : Int)).kind_ == 3 then
      gd ((p ++ (gt a (f : Int)).path_).size + (strOfNums [wu8 (m : Int)]).size ≤ 9223372036854775807) <|
      some ((p ++ (gt a (f : Int)).path_) ++ (strOfNums [wu8 (m : Int)]))
     else
      some (p ++ (gt a (f : Int)).path_)) = some q ∧ q.size ≤ 200000 := by
    cases (gt a (f : Int)).kind_ == 3
    ·exact ⟨_, rfl, by rw [app_size]; omega⟩
    ·rw [bif_true rfl, gd_pos (by rw [strOfNums_size, app_size]; simp; omega)]
     exact ⟨_, rfl, by rw [app_size, strOfNums_size, app_size]; simp; omega⟩
   obtain ⟨q, q1, q2⟩ := hq
   rw [q1, Option.bind_some, w64_nat (x := (m : Int) + 1) (k := m + 1) (by simp) (by omega)]
   by_cases hv : vg (gt a (f : Int)).kids_ (m : Int) = 0
   ·rw [hv, bif_false (c := (0 : Int) != 0) rfl]
    simp only [Option.bind_some]
    rw [bif_false rfl]
    exact wt_l0 ⟨z1, z2⟩ hp hrc fuel (m + 1) n L ps (by omega) hk hn hL hps
   ·rw [bif_true (by simpa using hv)]
    obtain ⟨b, i, L', ps', r1, r2⟩ := hrc n L ps (vg (gt a (f : Int)).kids_ (m : Int)) q hk hn hL hps q2
    rw [r1]
    simp only [Option.bind_some]
    cases b
    ·rw [bif_true (c := !false) rfl]
     exact .inr ⟨_, _, _, _, rfl, r2⟩
    ·rw [bif_false (c := !true) rfl]
     obtain ⟨n', e, b1, b2, b3, b4⟩ := r2
     subst e
     rcases wt_l0 ⟨z1, z2⟩ hp hrc fuel (m + 1) n' L' ps' (by omega) (by omega) b2 b3 b4 with ⟨L2, ps2, i2, g1, g2⟩ | ⟨b', i2, L2, ps2, g1, g2⟩
     ·exact .inl ⟨_, _, _, g1, g2.mono b1⟩
     ·exact .inr ⟨_, _, _, _, g1, g2.mono b1⟩
  ·rw [bif_false (decide_eq_false (by omega))]
   exact .inl ⟨_, _, _, rfl, n, rfl, Nat.le_refl _, hn, hL, hps⟩
theorem wt_walk {a : List Node} (hz : Sm a) : ∀ kk, WT a kk (trie_walker_walk.f kk)
 | 0 => fun n L ps k p h => by omega
 | kk + 1 => by
  intro n L ps k p h hn hL hps hp
  obtain ⟨z1, z2⟩ := hz
  rw [trie_walker_walk.f]
  have stop : ∃ b i L' ps', (some (false, (n : Int), L, ps) : Option (Bool × Int × List Pair × List ByteArray)) = some (b, i, L', ps') ∧ Bd a n i L' ps' := ⟨_, _, _, _, rfl, n, rfl, Nat.le_refl _, hn, hL, hps⟩
  by_cases c1 : k = (n : Int)
  ·subst c1
   rw [bif_false (c := (n : Int) != (n : Int)) (by simp)]
   by_cases c2 : n < a.length
   ·rw [bif_false (decide_eq_false (by omega)), Option.bind_some]
    by_cases c3 : p.size ≤ 16
    ·have zn := z2 n
     have hb := BIG_ge
     have e1 : w64 ((n : Int) + 1) = ((n + 1 : Nat) : Int) := w64_nat (by simp) (by omega)
     rw [bif_false (decide_eq_false (by omega)), gd_pos (by omega), gd_pos (by omega), gd_pos (by omega), e1]
     have go : ∀ L1 : List Pair, L1.length ≤ n + 1 → ∃ b i L' ps', ((trie_walker_walk.l0 a (n : Int) p (trie_walker_walk.f kk) BIG (L1, ps ++ [p], ((n + 1 : Nat) : Int), 0)).bind fun
  | .inl (y721, y726, y731) =>
   some (true, y731, y721, y726)
  | .inr r925 =>
   some r925) = some (b, i, L', ps') ∧ Bd a n i L' ps' := fun L1 hL1 => by
      rcases wt_l0 ⟨z1, z2⟩ (f := n) c3 (wt_walk ⟨z1, z2⟩ kk) BIG 0 (n + 1) L1 (ps ++ [p]) (by omega) (by omega) (by omega) hL1 (by simp; omega) with ⟨L2, ps2, i2, g1, g2⟩ | ⟨b', i2, L2, ps2, g1, g2⟩
      ·rw [show ((0 : Nat) : Int) = 0 from rfl] at g1
       rw [g1]
       exact ⟨_, _, _, _, rfl, g2.mono (by omega)⟩
      ·rw [show ((0 : Nat) : Int) = 0 from rfl] at g1
       rw [g1]
       exact ⟨_, _, _, _, rfl, g2.mono (by omega)⟩
     cases hh : (gt a (n : Int)).has_
     ·rw [bif_false rfl]
      simp only [Option.bind_some]
      rw [bif_false rfl]
      exact go L (by omega)
     ·obtain ⟨b, L1, w1, w2⟩ := wpair_ok (a := a) (n := ((n + 1 : Nat) : Int)) (L := L) (ps := ps ++ [p]) (s := p ++ (gt a (n : Int)).path_) (v := (gt a (n : Int)).value_) (by rw [app_size]; omega) (by omega)
      rw [bif_true rfl, w1]
      simp only [Option.bind_some]
      cases b
      ·rw [bif_true (c := !false) rfl]
       exact ⟨_, _, _, _, rfl, n + 1, rfl, by omega, by omega, by omega, by simp; omega⟩
      ·rw [bif_false (c := !true) rfl]
       exact go L1 (by omega)
    ·rw [bif_true (decide_eq_true (by omega))]
     exact stop
   ·rw [bif_true (decide_eq_true (by omega)), Option.bind_some, bif_true rfl]
    exact stop
  ·rw [bif_true (c := k != (n : Int)) (by simpa using c1), Option.bind_some, bif_true rfl]
   exact stop
theorem tsame_l0 {x y : List Node} (hx : x.length < 1000000000) (hxy : x.length = y.length) : ∀ (fuel i : Nat), x.length - i < fuel → (trie_Same.l0 x y fuel (i : Int) = some (.inl ()) ∧ x.drop i = y.drop i) ∨ trie_Same.l0 x y fuel (i : Int) = some (.inr false)
 | 0, i, h => by omega
 | fuel + 1, i, h => by
  rw [trie_Same.l0]
  rcases Nat.lt_or_ge i x.length with hi | hi
  ·rw [bif_true (decide_eq_true (by omega)), gd_pos (by omega), gd_pos (by omega), gt_nat, gt_nat, w64_nat (x := (i : Int) + 1) (k := i + 1) (by simp) (by omega)]
   unfold eq_Node
   rw [drop_cons default hi, drop_cons default (show i < y.length by omega)]
   by_cases he : x.getD i default = y.getD i default
   ·rw [decide_eq_true he, bif_false (c := !true) rfl]
    rcases tsame_l0 hx hxy fuel (i + 1) (by omega) with ⟨h1, h2⟩ | h1
    ·exact .inl ⟨h1, by rw [he, h2]⟩
    ·exact .inr h1
   ·rw [decide_eq_false he, bif_true (c := !false) rfl]
    exact .inr rfl
  ·rw [bif_false (decide_eq_false (by omega)), List.drop_eq_nil_of_le hi, List.drop_eq_nil_of_le (by omega)]
   exact .inl ⟨rfl, rfl⟩
theorem tsame_any {x y : List Node} (hx : x.length < 1000000000) : ∃ g, trie_Same.f x y = some g ∧ (g = true → x = y) := by
 unfold trie_Same.f
 by_cases hl : x.length = y.length
 ·rw [bif_false (c := (x.length : Int) != (y.length : Int)) (by simp [hl])]
  have h := tsame_l0 hx hl BIG 0 (by have := BIG_ge; omega)
  rw [show ((0 : Nat) : Int) = 0 from rfl, List.drop_zero, List.drop_zero] at h
  rcases h with ⟨h1, h2⟩ | h1
  ·rw [h1]; exact ⟨_, rfl, fun _ => h2⟩
  ·rw [h1]; exact ⟨_, rfl, fun h => by cases h⟩
 ·rw [bif_true (c := (x.length : Int) != (y.length : Int)) (by simp; omega)]
  exact ⟨_, rfl, fun h => by cases h⟩
/-- Yes means: a trie of pairs. -/
def Yes (a : List Node) (g : Bool) : Prop := g = true → ∃ l, MayP l ∧ l.length ≤ a.length ∧ a = tri l
theorem tgood_any {a : List Node} (hz : Sm a) : ∃ g, trie_Good.f a = some g ∧ Yes a g := by
 unfold trie_Good.f trie_walked.f
 have z1 := hz.1
 have key : ∀ (i : Int) (L : List Pair) (ps : List ByteArray), L.length ≤ a.length → ∃ g, (((trie_Build.f L).bind fun (y630, y631) =>
 (
   bif y631 then
    (trie_Same.f a y630).bind fun y46 =>
    some y46
   else
    some false).bind fun y42 =>
 some ((⟨a, i, L, ps⟩ : trie_walker_T), y42)).bind fun (y55, y56) => some y56) = some g ∧ Yes a g := fun i L ps hL => by
  by_cases hm : MayP L
  ·rw [Build_ok hm (by omega)]
   simp only [Option.bind_some]
   obtain ⟨g, g1, g2⟩ := tsame_any (x := a) (y := tri L) (by omega)
   rw [bif_true rfl, g1]
   exact ⟨g, rfl, fun h => ⟨L, hm, hL, g2 h⟩⟩
  ·have hb : trie_Build.f L = some (([] : List Node), false) := by
    unfold trie_Build.f
    rcases tmay_ok (l := L) (by omega) with ⟨h, -⟩ | ⟨-, h⟩
    ·exact absurd h hm
    ·rw [h]; rfl
   rw [hb]
   exact ⟨false, rfl, fun h => by cases h⟩
 by_cases he : 0 < a.length
 ·obtain ⟨b, i, L, ps, w1, n', w2, w3, w4, w5, w6⟩ := wt_walk hz BIG 0 [] [] 0 ⟨#[]⟩ (by have := BIG_ge; omega) (by omega) (by simp) (by simp) (by decide)
  rw [show ((0 : Nat) : Int) = 0 from rfl] at w1
  rw [bif_true (c := decide ((a.length : Int) > 0)) (decide_eq_true (by omega)), w1]
  simp only [Option.bind_some]
  cases b
  ·rw [bif_true (c := !false) rfl]
   exact ⟨false, rfl, fun h => by cases h⟩
  ·rw [bif_false (c := !true) rfl]
   exact key i L ps (by omega)
 ·rw [bif_false (c := decide ((a.length : Int) > 0)) (decide_eq_false (by omega))]
  simp only [Option.bind_some]
  rw [bif_false rfl]
  exact key 0 [] [] (by simp)
end Go.Lf
