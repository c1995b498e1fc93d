/- The card VerifyProves. -/
import Derived.Test.YtckhmgglgbnaaaaGreatDoorZK22
import Derived.Test.YtckhmgglgbnaaaaGreatDoorG
import Derived.Test.YtckhmgglgbnaaaaGreatDoorM70
import Derived.Test.YtckhmgglgbnaaaaGreatDoorM72
import Derived.Test.YtckhmgglgbnaaaaGreatDoorTie
import Derived.Test.YtckhmgglgbnaaaaGreatDoorCards
import Derived.SevenTiedAt
set_option linter.unusedVariables false
namespace Go.Lf
open Go Go.Proofs.YtckhmgglgbnaaaaGreatDoor Go.ChangeShapes
set_option maxRecDepth 100000 in
theorem verifyProves_lifted (os : Os) (started : os.Started) (H : Type) (enc : TypeId × Value → H) :
  ReturnsInHanded {} Go.Proofs.Tryz.checked os 3 .any (fun w args => (Rows.verifyProvesSpec.pre enc Go.Proofs.Tryz.prog Go.Proofs.Tryz.f3 [] false w args ∧ laidMetH Go.Proofs.Tryz.prog laidD w) ∧ sizedMet enc Go.Proofs.Tryz.prog Go.Proofs.Tryz.f3 (OpenSpec.ofChange Rows.verifyProvesSpec) false w args)
   (Rows.verifyProvesSpec.post enc Go.Proofs.Tryz.prog Go.Proofs.Tryz.f3 false true false false) := by
 refine returnsInHanded_of_change_and (C := Go.Proofs.Tryz.checked) (X := fun w _ => laidMetH Go.Proofs.Tryz.prog laidD w) (fun _ _ _ hh h => h.of_heap hh) own_ started (by kernel_rfl) Go.Proofs.Tryz.func3
  (ChangeSpec.witness_shaped (enc := enc) (C := Go.Proofs.Tryz.checked) (os := os) (X := fun w _ => laidMetH Go.Proofs.Tryz.prog laidD w) false (World.doorLaid Go.Proofs.Tryz.prog 19 os) #[.slice none 0 0, .string ⟨#[]⟩] 8 rfl (World.shaped_of_RefB (by kernel_rfl) (by kernel_rfl)) (by kernel_rfl) (by kernel_rfl) (by kernel_rfl) (door_met os _)) ?_
 intro W base args ds gs before hval0 hW _ _ hL _
 have hW' := hW
 obtain ⟨p, q, hA0, hV, rfl, hfz, hnd⟩ := hW
 have hA : DataW.TrodAll enc Go.Proofs.Tryz.prog W 0 (fun _ => true) true Go.Proofs.Tryz.f3.params.toList args.toList ds p := hA0
 have hA1 := hA
 rw [Go.Proofs.Tryz.params3] at hA1
 obtain ⟨v0, v1, d0, d1, p0, p1, rfl, rfl, -, h0, h1⟩ := trodAll_two hA1
 obtain ⟨rfl, rfl⟩ := trodVars_none hV
 obtain ⟨x0, hR0, -, hB0⟩ := open_slice (K := ek_Pair) el_22 opens_pair (hval0 0 22 v0 (by rw [Go.Proofs.Tryz.params3]; rfl) rfl) (by kernel_rfl) h0
 obtain ⟨x1, rfl, hB1⟩ := open_string und_9 (hval0 1 9 v1 (by rw [Go.Proofs.Tryz.params3]; rfl) rfl) h1
 refine (law17_VerifyProves_ok (ok_start W) (gl_of_laid hL) hR0 (verifyProves_plain wakes17 x0 x1)).mono fun e W' h => ?_
 obtain ⟨v, rfl, rfl, hw⟩ := h
 exact ⟨_, rfl, shut_law (P := P) (enc := enc) hW' hA (fun x hx => by simp [hx]) hw (IH.le_refl _) rfl (t := 4) (by kernel_rfl) (by kernel_rfl) rfl rfl rfl laidOut_ (by rw [Go.Proofs.Tryz.params3]; exact of_decide_eq_true (by kernel_rfl))⟩
end Go.Lf
namespace Go.Proofs.YtckhmgglgbnaaaaGreatDoor
open Go Go.Lf
theorem verifyProves_holds : Rows.VerifyProvesSaid :=
 OpenClaim.holds_of_wide 3 Go.Proofs.Tryz.f3 rfl rfl rfl rfl rfl rfl rfl ⟨rfl, rfl, rfl, rfl, rfl⟩ rfl rfl rfl rfl rfl (by kernel_rfl) Go.Proofs.Tryz.func3 (by kernel_rfl)
  (of_decide_eq_true (by kernel_rfl)) (by unfold Func.isWrapper; first | (rw [if_pos (by decide +kernel)]; kernel_rfl) | (rw [if_neg (by decide +kernel)]; exact ⟨rfl, rfl⟩))
  (fun os started H enc _ => verifyProves_lifted os started H enc)
theorem verifyProves_card_holds : Rows.VerifyProvesCardSaid :=
 Claim7.holds_tied_plain_at .later [] [.data, .data] true (true, "7ecd1c4858af23f49de016968d589cd15cb8709d3944f168c2f019bfa99ea7b0") false
  verifyProves_holds (fun _ h => by cases h) (by kernel_rfl) (fun _ h => by cases h) verifyProves_row_tie rfl ⟨rfl, rfl⟩ (by kernel_rfl) rfl
  (fun f fn hf hfn => by
   obtain rfl : f = 3 := Option.some.inj ((show Tryz.prog.funcNamed "umbel/umbellaw17.VerifyProves" = some 3 by kernel_rfl).symm.trans hf) |>.symm
   obtain rfl : fn = Tryz.f3 := (Option.some.inj (Tryz.func3.symm.trans hfn)).symm
   exact ⟨by kernel_rfl, fun j t ht => by
    rw [Tryz.params3] at ht
    have hm : t ∈ [22, 9] := by simpa using Array.mem_of_getElem? ht
    have hall : ([22, 9].all fun u => !Tryz.prog.wantsStandIn u) = true := by kernel_rfl
    exact (show Tryz.prog.wantsStandIn t = false by simpa using List.all_eq_true.1 hall t hm)⟩)
  (by kernel_rfl)
end Go.Proofs.YtckhmgglgbnaaaaGreatDoor
