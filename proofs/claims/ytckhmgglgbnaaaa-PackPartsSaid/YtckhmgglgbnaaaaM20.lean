/- PackFull, as a plain law. -/
import Derived.Test.YtckhmgglgbnaaaaM19
set_option linter.unusedVariables false
set_option linter.unusedSimpArgs false
namespace Go.Lf
open Go
theorem kids_len {l : List Pair} (hm : MayP l) (hl : l.length < 10000) {k : Nat} (hk : k < (sheets l).length) : ((sheets l).getD k default).kids_.length < 1000000 := by
  obtain ⟨b, t, e1, e2, e3, e4, e5, e6⟩ := sheets_ent hm hl hk
  obtain ⟨k1, k2⟩ := KOK.get e6
  obtain ⟨s1, s2⟩ := sheets_len hm hl
  have htops := gr_tops (b := b) e2
  have hsz := e1.lt
  have hls := len_le_szs (gr t b).tops
  omega
theorem full_l0 {l : List Pair} (hm : MayP l) (hl : l.length < 10000) {y : ref10_Both_T} (hy : y.t_ = tri l) : ∀ (fuel k : Nat), (sheets l).length - k < fuel → law19_PackFull.l0 y (sheets l) fuel (k : Int) = some (.inl ())
  | 0, k, h => by omega
  | fuel + 1, k, h => by
    obtain ⟨s1, s2⟩ := sheets_len hm hl
    rw [law19_PackFull.l0]
    rcases Nat.lt_or_ge k (sheets l).length with hk | hk
    · have hkl := kids_len hm hl hk
      have h1 := full_l1 hm hl hy hk BIG 0 (by have := BIG_ge; omega)
      rw [show ((0 : Nat) : Int) = 0 from rfl] at h1
      rw [bif_true (decide_eq_true (by omega)), h1]
      simp only [Option.bind_some]
      rw [w64_nat (x := (k : Int) + 1) (k := k + 1) (by simp) (by omega)]
      exact full_l0 hm hl hy fuel (k + 1) (by omega)
    · rw [bif_false (decide_eq_false (by omega))]
theorem packFull_plain (wk : law19_wakes.f = some true) (l : List Pair) : law19_PackFull.f l = some true := by
  unfold law19_PackFull.f
  rcases long_ok l with hL | ⟨hL, hlen⟩
  · rw [hL, Option.bind_some, bif_true rfl, Option.bind_some, bif_true rfl, wk]
    rfl
  · rw [hL, Option.bind_some, bif_false rfl]
    rcases may_ok (l := l) (by omega) with ⟨hm, hM⟩ | ⟨hm, hM⟩
    · rw [hM]
      simp only [Option.bind_some, Bool.not_true]
      rw [bif_false rfl, Build2_ok hm (by omega)]
      simp only [Option.bind_some]
      rw [Of_ok hm (by omega)]
      simp only [Option.bind_some, Bool.not_true]
      rw [bif_false rfl]
      obtain ⟨s1, s2⟩ := sheets_len hm (show l.length < 10000 by omega)
      have h := full_l0 hm (show l.length < 10000 by omega) (y := ⟨tri l, trp l, true⟩) rfl BIG 0 (by have := BIG_ge; omega)
      rw [show ((0 : Nat) : Int) = 0 from rfl] at h
      rw [h]
      simp only [Option.bind_some]
      rw [wk]
      rfl
    · rw [hM]
      simp only [Option.bind_some, Bool.not_false]
      rw [bif_true rfl, wk]
      rfl
end Go.Lf
