/- The row SlotStrict. -/
import Derived.Test.YtckhmgglgbnaaaaZK16
import Derived.Test.YtckhmgglgbnaaaaU6
import Derived.Test.YtckhmgglgbnaaaaRows
import Derived.Test.YtckhmgglgbnaaaaMD
import Derived.Test.YtckhmgglgbnaaaaW20
set_option linter.unusedVariables false
namespace Go.Lf
open Go Go.Proofs.Ytckhmgglgbnaaaa Go.ChangeShapes
theorem own_ : ownKnob Go.Proofs.Try.prog.godebug = none := by kernel_rfl
theorem laidOut_ : laidOutB Go.Proofs.Try.prog = true := by kernel_rfl
set_option maxRecDepth 100000 in
theorem slotStrict_lifted (os : Os) (started : os.Started) (H : Type) (enc : TypeId × Value → H) :
    ReturnsInHanded {} Go.Proofs.Try.checked os 9 .any (Rows.slotStrictSpec.pre6 enc Go.Proofs.Try.prog Go.Proofs.Try.f9 Rows.slotStrictRow.domain false) (Rows.slotStrictSpec.post enc Go.Proofs.Try.prog Go.Proofs.Try.f9 false true false false) := by
  refine returnsInHanded_of_change (C := Go.Proofs.Try.checked) own_ started (by kernel_rfl) Go.Proofs.Try.func9
    (ChangeSpec.witness6 (enc := enc) (C := Go.Proofs.Try.checked) false ⟨#[], #[.string ⟨#[]⟩, .int .u8 0], []⟩ 8 (by kernel_rfl) (by kernel_rfl) (by kernel_rfl) (by kernel_rfl)) ?_
  intro W base args ds gs before hval0 hW hcnd _
  have hW' := hW
  obtain ⟨p, q, hA0, hV, rfl, hfz, hnd⟩ := hW
  have hA : DataW.TrodAll enc Go.Proofs.Try.prog W 0 (fun _ => true) true Go.Proofs.Try.f9.params.toList args.toList ds p := hA0
  have hA1 := hA
  rw [Go.Proofs.Try.params9] at hA1
  obtain ⟨v0, v1, d0, d1, p0, p1, rfl, rfl, -, h0, h1⟩ := trodAll_two hA1
  obtain ⟨rfl, rfl⟩ := trodVars_none hV
  obtain ⟨s, rfl, hs⟩ := open_string (P := P) (by kernel_rfl) (hval0 0 9 v0 (by rw [Go.Proofs.Try.params9]; rfl) rfl) h0
  obtain ⟨n, rfl, hn⟩ := open_int (P := P) (k := .u8) (by kernel_rfl) (hval0 1 5 v1 (by rw [Go.Proofs.Try.params9]; rfl) rfl) h1
  refine (law20_SlotStrict_ok (ok_start W) (slotStrict_plain wakes20 s n)).mono fun e W' h => ?_
  obtain ⟨v, rfl, rfl, hw⟩ := h
  exact ⟨_, rfl, shut_law (P := P) (enc := enc) hW' hA (fun x hx => by simp [hx]) hw (IH.le_refl _) rfl (t := 4) (by kernel_rfl) (by kernel_rfl) rfl rfl rfl laidOut_ (by rw [Go.Proofs.Try.params9]; exact of_decide_eq_true (by kernel_rfl))⟩
end Go.Lf
namespace Go.Proofs.Ytckhmgglgbnaaaa
open Go Go.Lf
theorem slotStrict_holds : Rows.SlotStrictSaid :=
  OpenClaim.holds_of_wide 9 Go.Proofs.Try.f9 rfl rfl rfl rfl rfl rfl rfl ⟨rfl, rfl, rfl, rfl, rfl⟩ rfl rfl rfl rfl rfl (by kernel_rfl) Go.Proofs.Try.func9 (by kernel_rfl)
    (of_decide_eq_true (by kernel_rfl)) (by unfold Func.isWrapper; first | (rw [if_pos (by decide +kernel)]; kernel_rfl) | (rw [if_neg (by decide +kernel)]; exact ⟨rfl, rfl⟩))
    (fun os started H enc _ => slotStrict_lifted os started H enc)
end Go.Proofs.Ytckhmgglgbnaaaa
