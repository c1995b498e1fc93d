/- The row PackParts. -/
import Derived.Test.YtckhmgglgbnaaaaZK9
import Derived.Test.YtckhmgglgbnaaaaU6
import Derived.Test.YtckhmgglgbnaaaaRows
import Derived.Test.YtckhmgglgbnaaaaM22
import Derived.Test.YtckhmgglgbnaaaaW19
set_option linter.unusedVariables false
namespace Go.Lf
open Go Go.Proofs.Ytckhmgglgbnaaaa Go.ChangeShapes
theorem own_ : ownKnob Go.Proofs.Try.prog.godebug = none := by kernel_rfl
theorem laidOut_ : laidOutB Go.Proofs.Try.prog = true := by kernel_rfl
theorem opens_pair {H : Type} {enc : TypeId × Value → H} : Opens enc P 55 ek_Pair (fun x => x.key_.size ≤ maxLen ∧ x.value_.size ≤ maxLen) := fun W fuel cs r h => by
  obtain ⟨hl, f0, r0, h0⟩ := trod_field h (k := 0) (off := 0) (ft := 9) (m := 1) (by kernel_rfl)
  obtain ⟨-, f1, r1, h1⟩ := trod_field h (k := 1) (off := 1) (ft := 9) (m := 1) (by kernel_rfl)
  obtain ⟨s0, e0, b0⟩ := opens_string (by kernel_rfl) _ _ _ _ h0
  obtain ⟨s1, e1, b1⟩ := opens_string (by kernel_rfl) _ _ _ _ h1
  have hc : P.cellsOf 55 = 2 := by kernel_rfl
  rw [hc] at hl
  refine ⟨⟨s0, s1⟩, ?_, b0, b1⟩
  match cs, hl with
  | [a, b], _ =>
    have e0 : [a] = [.string s0] := e0
    have e1 : [b] = [.string s1] := e1
    cases e0; cases e1; rfl
theorem law4_true (l : List Pair) : law19_PackParts.f l = some true := packParts_plain wakes19 l
set_option maxRecDepth 100000 in
theorem packParts_lifted (os : Os) (started : os.Started) (H : Type) (enc : TypeId × Value → H) :
    ReturnsInHanded {} Go.Proofs.Try.checked os 4 .any (Rows.packPartsSpec.pre6 enc Go.Proofs.Try.prog Go.Proofs.Try.f4 Rows.packPartsRow.domain false) (Rows.packPartsSpec.post enc Go.Proofs.Try.prog Go.Proofs.Try.f4 false true false false) := by
  refine returnsInHanded_of_change (C := Go.Proofs.Try.checked) own_ started (by kernel_rfl) Go.Proofs.Try.func4
    (ChangeSpec.witness6 (enc := enc) (C := Go.Proofs.Try.checked) false ⟨#[], #[.slice none 0 0], []⟩ 8 (by kernel_rfl) (by kernel_rfl) (by kernel_rfl) (by kernel_rfl)) ?_
  intro W base args ds gs before hval0 hW hcnd _
  have hW' := hW
  obtain ⟨p, q, hA0, hV, rfl, hfz, hnd⟩ := hW
  have hA : DataW.TrodAll enc Go.Proofs.Try.prog W 0 (fun _ => true) true Go.Proofs.Try.f4.params.toList args.toList ds p := hA0
  have hA1 := hA
  rw [Go.Proofs.Try.params4] at hA1
  obtain ⟨v0, d0, rfl, rfl, h0⟩ := trodAll_one hA1
  obtain ⟨rfl, rfl⟩ := trodVars_none hV
  obtain ⟨l, hR, -, hB⟩ := open_slice (K := ek_Pair) el_43 opens_pair (hval0 0 43 v0 (by rw [Go.Proofs.Try.params4]; rfl) rfl) (by kernel_rfl) h0
  refine (law19_PackParts_ok (ok_start W) hR (law4_true l)).mono fun e W' h => ?_
  obtain ⟨v, rfl, rfl, hw⟩ := h
  exact ⟨_, rfl, shut_law (P := P) (enc := enc) hW' hA (fun x hx => by simp [hx]) hw (IH.le_refl _) rfl (t := 4) (by kernel_rfl) (by kernel_rfl) rfl rfl rfl laidOut_ (by rw [Go.Proofs.Try.params4]; exact of_decide_eq_true (by kernel_rfl))⟩
end Go.Lf
namespace Go.Proofs.Ytckhmgglgbnaaaa
open Go Go.Lf
theorem packParts_holds : Rows.PackPartsSaid :=
  OpenClaim.holds_of_wide 4 Go.Proofs.Try.f4 rfl rfl rfl rfl rfl rfl rfl ⟨rfl, rfl, rfl, rfl, rfl⟩ rfl rfl rfl rfl rfl (by kernel_rfl) Go.Proofs.Try.func4 (by kernel_rfl)
    (of_decide_eq_true (by kernel_rfl)) (by unfold Func.isWrapper; first | (rw [if_pos (by decide +kernel)]; kernel_rfl) | (rw [if_neg (by decide +kernel)]; exact ⟨rfl, rfl⟩))
    (fun os started H enc _ => packParts_lifted os started H enc)
end Go.Proofs.Ytckhmgglgbnaaaa
