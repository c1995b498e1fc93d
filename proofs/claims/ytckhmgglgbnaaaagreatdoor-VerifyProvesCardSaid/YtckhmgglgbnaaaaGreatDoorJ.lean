/- strings.Join, by the shelf's contract. -/
import Derived.Test.YtckhmgglgbnaaaaGreatDoorShelf
import Derived.Test.YtckhmgglgbnaaaaGreatDoorZF
set_option linter.unusedVariables false
namespace Go.Lf
open Go Go.RowKit
theorem strings_Join_ok {E : World} {I : IH} {F : List Atom} {w : World} {a0 : List ByteArray} {a0v : Value} {a1 res0 : ByteArray} (hw : Ok E I F w) (hG : Gl I) (hR : RS ekS I a0v a0) (hp : strings_Join.f a0 a1 = some res0) :
  Calls P 66 ⟨[a0v, .string a1]⟩ w fun e w' => ∃ v, e = .returned v ∧ v = .string res0 ∧ Ok E I F w' := by
 unfold strings_Join.f at hp
 obtain ⟨hg, hp⟩ := gd_some hp
 have ho := out_inj hp
 subst ho
 obtain ⟨hl, A, c, rfl, h | ⟨b, off, cs, e, fr, rfl, hb, hr⟩⟩ := hR
 ·subst h
  refine (Go.Proofs.Tryz.strings_Join_none A c a1 w).mono fun e w' ⟨he, hw'⟩ => ?_
  subst hw'
  exact ⟨_, he, rfl, hw⟩
 ·have hbw := hw.imm _ _ hb
  refine (Go.Proofs.Tryz.strings_Join b off c a0 a1 w ?_ ?_ hg.1 hl.2 hg.2).mono fun e w' ⟨he, hB⟩ => ⟨_, he, rfl, hw.same ⟨hB.os, hB.tape, hB.output, hB.size, fun k hk _ => hB.block k hk⟩⟩
  ·intro j x hx
   rw [cell_blk hbw]
   have h1 : List.take 1 (cs.drop (off + j * 1)) = [.string x] := hr j x hx
   rw [Nat.mul_one] at h1
   have h2 := congrArg (fun l : List Value => l[0]?) h1
   simp [List.getElem?_take, List.getElem?_drop] at h2
   exact h2
  ·exact (Array.getElem?_eq_some_iff.1 hbw).1
end Go.Lf
