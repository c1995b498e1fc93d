/- The row PackTells. -/
import Derived.Test.YtckhmgglgbnaaaaZK14
import Derived.Test.YtckhmgglgbnaaaaG
import Derived.Test.YtckhmgglgbnaaaaRows
import Derived.Test.YtckhmgglgbnaaaaMD
import Derived.Test.YtckhmgglgbnaaaaW19
set_option linter.unusedVariables false
namespace Go.Lf
open Go Go.Proofs.Ytckhmgglgbnaaaa Go.ChangeShapes
theorem own_ : ownKnob Go.Proofs.Try.prog.godebug = none := by kernel_rfl
theorem laidOut_ : laidOutB Go.Proofs.Try.prog = true := by kernel_rfl
set_option maxRecDepth 100000 in
theorem packTells_lifted (os : Os) (started : os.Started) (H : Type) (enc : TypeId × Value → H) :
    ReturnsInHanded {} Go.Proofs.Try.checked os 3 .any (Rows.packTellsSpec.pre6 enc Go.Proofs.Try.prog Go.Proofs.Try.f3 Rows.packTellsRow.domain false) (Rows.packTellsSpec.post enc Go.Proofs.Try.prog Go.Proofs.Try.f3 false true false false) := by
  refine returnsInHanded_of_change (C := Go.Proofs.Try.checked) own_ started (by kernel_rfl) Go.Proofs.Try.func3
    (ChangeSpec.witness6 (enc := enc) (C := Go.Proofs.Try.checked) false ⟨#[], #[.slice none 0 0, .int .i64 0, .agg #[.string ⟨#[]⟩, .int .i64 0, .slice none 0 0, .slice none 0 0]], []⟩ 8 (by kernel_rfl) (by kernel_rfl) (by kernel_rfl) (by kernel_rfl)) ?_
  intro W base args ds gs before hval0 hW hcnd _
  have hW' := hW
  obtain ⟨p, q, hA0, hV, rfl, hfz, hnd⟩ := hW
  have hA : DataW.TrodAll enc Go.Proofs.Try.prog W 0 (fun _ => true) true Go.Proofs.Try.f3.params.toList args.toList ds p := hA0
  have hA1 := hA
  rw [Go.Proofs.Try.params3] at hA1
  obtain ⟨v0, v1, v2, d0, d1, d2, p0, p1, p2, rfl, rfl, -, h0, h1, h2⟩ := trodAll_three hA1
  obtain ⟨rfl, rfl⟩ := trodVars_none hV
  obtain ⟨l, hR, -, hB⟩ := open_slice (K := ek_Node) (t := 23) (e := 51) (by kernel_rfl) opens_node (hval0 0 23 v0 (by rw [Go.Proofs.Try.params3]; rfl) rfl) (by kernel_rfl) h0
  obtain ⟨n, rfl, hn⟩ := open_int (k := .i64) (by kernel_rfl) (hval0 1 3 v1 (by rw [Go.Proofs.Try.params3]; rfl) rfl) h1
  obtain ⟨x, cs, rfl, ⟨w1, w2, rfl, hR1, hR2⟩, -⟩ := open_struct opens_plan h2 (by decide)
  refine (law19_PackTells_ok (ok_start W) hR hR1 hR2 (packTells_plain wakes19 l n x)).mono fun e W' h => ?_
  obtain ⟨v, rfl, rfl, hw⟩ := h
  exact ⟨_, rfl, shut_law (P := P) (enc := enc) hW' hA (fun x hx => by simp [hx]) hw (IH.le_refl _) rfl (t := 4) (by kernel_rfl) (by kernel_rfl) rfl rfl rfl laidOut_ (by rw [Go.Proofs.Try.params3]; exact of_decide_eq_true (by kernel_rfl))⟩
end Go.Lf
namespace Go.Proofs.Ytckhmgglgbnaaaa
open Go Go.Lf
theorem packTells_holds : Rows.PackTellsSaid :=
  OpenClaim.holds_of_wide 3 Go.Proofs.Try.f3 rfl rfl rfl rfl rfl rfl rfl ⟨rfl, rfl, rfl, rfl, rfl⟩ rfl rfl rfl rfl rfl (by kernel_rfl) Go.Proofs.Try.func3 (by kernel_rfl)
    (of_decide_eq_true (by kernel_rfl)) (by unfold Func.isWrapper; first | (rw [if_pos (by decide +kernel)]; kernel_rfl) | (rw [if_neg (by decide +kernel)]; exact ⟨rfl, rfl⟩))
    (fun os started H enc _ => packTells_lifted os started H enc)
end Go.Proofs.Ytckhmgglgbnaaaa
