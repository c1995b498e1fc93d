/- The card ProveTells. -/
import Derived.Test.YtckhmgglgbnaaaaDoorZK19
import Derived.Test.YtckhmgglgbnaaaaDoorG2
import Derived.Test.YtckhmgglgbnaaaaDoorM59
import Derived.Test.YtckhmgglgbnaaaaDoorW16
import Derived.Test.YtckhmgglgbnaaaaDoorTie
import Derived.Test.YtckhmgglgbnaaaaDoorCards
import Derived.SevenTiedAt
set_option linter.unusedVariables false
namespace Go.Lf
open Go Go.Proofs.YtckhmgglgbnaaaaDoor Go.ChangeShapes
set_option maxRecDepth 100000 in
theorem proveTells_lifted (os : Os) (started : os.Started) (H : Type) (enc : TypeId × Value → H) :
    ReturnsInHanded {} Go.Proofs.Tryd.checked os 8 .any (fun w args => (Rows.proveTellsSpec.pre enc Go.Proofs.Tryd.prog Go.Proofs.Tryd.f8 [] false w args ∧ laidMetH Go.Proofs.Tryd.prog laidD w) ∧ sizedMet enc Go.Proofs.Tryd.prog Go.Proofs.Tryd.f8 (OpenSpec.ofChange Rows.proveTellsSpec) false w args)
      (Rows.proveTellsSpec.post enc Go.Proofs.Tryd.prog Go.Proofs.Tryd.f8 false true false false) := by
  refine returnsInHanded_of_change_and (C := Go.Proofs.Tryd.checked) (X := fun w _ => laidMetH Go.Proofs.Tryd.prog laidD w) (fun _ _ _ hh h => h.of_heap hh) own_ started (by kernel_rfl) Go.Proofs.Tryd.func8
    (ChangeSpec.witness_shaped (enc := enc) (C := Go.Proofs.Tryd.checked) (os := os) (X := fun w _ => laidMetH Go.Proofs.Tryd.prog laidD w) false (World.doorLaid Go.Proofs.Tryd.prog 19 os) #[.slice none 0 0, .string ⟨#[]⟩] 8 rfl (World.shaped_of_RefB (by kernel_rfl) (by kernel_rfl)) (by kernel_rfl) (by kernel_rfl) (by kernel_rfl) (door_met os _)) ?_
  intro W base args ds gs before hval0 hW _ _ hL _
  have hW' := hW
  obtain ⟨p, q, hA0, hV, rfl, hfz, hnd⟩ := hW
  have hA : DataW.TrodAll enc Go.Proofs.Tryd.prog W 0 (fun _ => true) true Go.Proofs.Tryd.f8.params.toList args.toList ds p := hA0
  have hA1 := hA
  rw [Go.Proofs.Tryd.params8] at hA1
  obtain ⟨v0, v1, d0, d1, p0, p1, rfl, rfl, -, h0, h1⟩ := trodAll_two hA1
  obtain ⟨rfl, rfl⟩ := trodVars_none hV
  obtain ⟨x0, hR0, -, hB0⟩ := open_slice (K := ek_Node) el_23 opens_node (hval0 0 23 v0 (by rw [Go.Proofs.Tryd.params8]; rfl) rfl) (by kernel_rfl) h0
  obtain ⟨x1, rfl, hB1⟩ := open_string und_9 (hval0 1 9 v1 (by rw [Go.Proofs.Tryd.params8]; rfl) rfl) h1
  refine (law16_ProveTells_ok (ok_start W) (gl_of_laid hL) hR0 (proveTells_plain wakes16 x0 x1)).mono fun e W' h => ?_
  obtain ⟨v, rfl, rfl, hw⟩ := h
  exact ⟨_, rfl, shut_law (P := P) (enc := enc) hW' hA (fun x hx => by simp [hx]) hw (IH.le_refl _) rfl (t := 4) (by kernel_rfl) (by kernel_rfl) rfl rfl rfl laidOut_ (by rw [Go.Proofs.Tryd.params8]; exact of_decide_eq_true (by kernel_rfl))⟩
end Go.Lf
namespace Go.Proofs.YtckhmgglgbnaaaaDoor
open Go Go.Lf
theorem proveTells_holds : Rows.ProveTellsSaid :=
  OpenClaim.holds_of_wide 8 Go.Proofs.Tryd.f8 rfl rfl rfl rfl rfl rfl rfl ⟨rfl, rfl, rfl, rfl, rfl⟩ rfl rfl rfl rfl rfl (by kernel_rfl) Go.Proofs.Tryd.func8 (by kernel_rfl)
    (of_decide_eq_true (by kernel_rfl)) (by unfold Func.isWrapper; first | (rw [if_pos (by decide +kernel)]; kernel_rfl) | (rw [if_neg (by decide +kernel)]; exact ⟨rfl, rfl⟩))
    (fun os started H enc _ => proveTells_lifted os started H enc)
theorem proveTells_card_holds : Rows.ProveTellsCardSaid :=
  Claim7.holds_tied_plain_at .later [] [.data, .data] true (true, "bdb2fa4acabacd2545b1364625a092664d4c498b043b20e396267cd9072c5cff") false
    proveTells_holds (fun _ h => by cases h) (by kernel_rfl) (fun _ h => by cases h) proveTells_row_tie rfl ⟨rfl, rfl⟩ (by kernel_rfl) rfl
    (fun f fn hf hfn => by
      obtain rfl : f = 8 := Option.some.inj ((show Tryd.prog.funcNamed "umbel/umbellaw16.ProveTells" = some 8 by kernel_rfl).symm.trans hf) |>.symm
      obtain rfl : fn = Tryd.f8 := (Option.some.inj (Tryd.func8.symm.trans hfn)).symm
      exact ⟨by kernel_rfl, fun j t ht => by
        rw [Tryd.params8] at ht
        have hm : t ∈ [23, 9] := by simpa using Array.mem_of_getElem? ht
        have hall : ([23, 9].all fun u => !Tryd.prog.wantsStandIn u) = true := by kernel_rfl
        exact (show Tryd.prog.wantsStandIn t = false by simpa using List.all_eq_true.1 hall t hm)⟩)
    (by kernel_rfl)
end Go.Proofs.YtckhmgglgbnaaaaDoor
