/-
  No cell of these rows narrows 'for every input' (looked for: loops, veiled, ifaces, maps, wideKeys, modest, calm, conditions, laid).
  DERIVED. THE GIVEN ROWS OF THIS SEAT. 9 by the template 'for every input the law returns true; each argument reads behind the call as it read before'; 0 by the template 'total and deterministic' (their statements: YtckhmgglgbnaaaaTotals.lean).
  GIVEN WITH THE SEED: the statements are not yours to turn. If you find one false, say at which input.
  Laid BY PROGRAM, IN A SANDBOX (cutbox-rows.mjs): the forced cells as the released guide's own fill.sh prints them over the translation 68cfcbf5195b4835… (all of the seat's roots in one cut). By AI agents, Wed Nov 11 2026. No macro, syntax, notation, axiom, sorry.
-/
import Derived.Test.YtckhmgglgbnaaaaChecked
import GoSem.Claim
import GoSem.ClaimJoined
import GoSem.ClaimMapViews
import Derived.JoinedTies
import Derived.KernelRfl
namespace Go.Proofs.Ytckhmgglgbnaaaa
/- THE CELL 'sum', in the pinned program and in every row, IS THE sha256 OF THE DUMP (.gsa) THAT YtckhmgglgbnaaaaProg.lean LOADS. Nothing in Lean hashes anything: it is a label: what it is worth is what the hold of that sum in a sandbox is worth. -/
noncomputable def Try.pinned : Pinned := { name := "ytckhmgglgbnaaaa", sum := "68cfcbf5195b483565b0b3211e0a9ffbcc13e8482d486b2053ef0f72c18ade69", checked := Try.checked }
namespace Rows
def none {H : Type} : Left H := { results := [], args := [] }

/-- 'umbellaw19.PackTells': WHATEVER THE INPUT: true; the input reads as it did. -/
def packTellsSpec : ChangeSpec := { name := "packTells", fn := fun _ => fun
  | [d1, d2, d3] => { results := [.lit (.bool true)], args := [d1, d2, d3] }
  | _ => none }
def packTellsRow : OpenClaim := { program := "ytckhmgglgbnaaaa", sum := "68cfcbf5195b483565b0b3211e0a9ffbcc13e8482d486b2053ef0f72c18ade69", func := "umbel/umbellaw19.PackTells", spec := "packTells", unfollowed := true, recurses := true, apart := false }
def PackTellsSaid : Prop := packTellsRow.holds Try.pinned (OpenSpec.ofChange packTellsSpec)

/-- ITS FALSE NEIGHBOUR: 'it returns false'. Refute it at one input. -/
def packTellsWrong : ChangeSpec := { name := "packTells", fn := fun _ => fun
  | [d1, d2, d3] => { results := [.lit (.bool false)], args := [d1, d2, d3] }
  | _ => none }
def PackTellsWrongFalsely : Prop := packTellsRow.holds Try.pinned (OpenSpec.ofChange packTellsWrong)

/-- 'umbellaw19.PackParts': WHATEVER THE INPUT: true; the input reads as it did. -/
def packPartsSpec : ChangeSpec := { name := "packParts", fn := fun _ => fun
  | [d] => { results := [.lit (.bool true)], args := [d] }
  | _ => none }
def packPartsRow : OpenClaim := { program := "ytckhmgglgbnaaaa", sum := "68cfcbf5195b483565b0b3211e0a9ffbcc13e8482d486b2053ef0f72c18ade69", func := "umbel/umbellaw19.PackParts", spec := "packParts", unfollowed := true, recurses := true, apart := false }
def PackPartsSaid : Prop := packPartsRow.holds Try.pinned (OpenSpec.ofChange packPartsSpec)

/-- ITS FALSE NEIGHBOUR: 'it returns false'. Refute it at one input. -/
def packPartsWrong : ChangeSpec := { name := "packParts", fn := fun _ => fun
  | [d] => { results := [.lit (.bool false)], args := [d] }
  | _ => none }
def PackPartsWrongFalsely : Prop := packPartsRow.holds Try.pinned (OpenSpec.ofChange packPartsWrong)

/-- 'umbellaw19.PackFull': WHATEVER THE INPUT: true; the input reads as it did. -/
def packFullSpec : ChangeSpec := { name := "packFull", fn := fun _ => fun
  | [d] => { results := [.lit (.bool true)], args := [d] }
  | _ => none }
def packFullRow : OpenClaim := { program := "ytckhmgglgbnaaaa", sum := "68cfcbf5195b483565b0b3211e0a9ffbcc13e8482d486b2053ef0f72c18ade69", func := "umbel/umbellaw19.PackFull", spec := "packFull", unfollowed := true, recurses := true, apart := false }
def PackFullSaid : Prop := packFullRow.holds Try.pinned (OpenSpec.ofChange packFullSpec)

/-- ITS FALSE NEIGHBOUR: 'it returns false'. Refute it at one input. -/
def packFullWrong : ChangeSpec := { name := "packFull", fn := fun _ => fun
  | [d] => { results := [.lit (.bool false)], args := [d] }
  | _ => none }
def PackFullWrongFalsely : Prop := packFullRow.holds Try.pinned (OpenSpec.ofChange packFullWrong)

/-- 'umbellaw19.PackNear': WHATEVER THE INPUT: true; the input reads as it did. -/
def packNearSpec : ChangeSpec := { name := "packNear", fn := fun _ => fun
  | [d1, d2, d3] => { results := [.lit (.bool true)], args := [d1, d2, d3] }
  | _ => none }
def packNearRow : OpenClaim := { program := "ytckhmgglgbnaaaa", sum := "68cfcbf5195b483565b0b3211e0a9ffbcc13e8482d486b2053ef0f72c18ade69", func := "umbel/umbellaw19.PackNear", spec := "packNear", unfollowed := true, recurses := true, apart := false }
def PackNearSaid : Prop := packNearRow.holds Try.pinned (OpenSpec.ofChange packNearSpec)

/-- ITS FALSE NEIGHBOUR: 'it returns false'. Refute it at one input. -/
def packNearWrong : ChangeSpec := { name := "packNear", fn := fun _ => fun
  | [d1, d2, d3] => { results := [.lit (.bool false)], args := [d1, d2, d3] }
  | _ => none }
def PackNearWrongFalsely : Prop := packNearRow.holds Try.pinned (OpenSpec.ofChange packNearWrong)

/-- 'umbellaw19.PackSizes': WHATEVER THE INPUT: true; the input reads as it did. -/
def packSizesSpec : ChangeSpec := { name := "packSizes", fn := fun _ => fun
  | [d] => { results := [.lit (.bool true)], args := [d] }
  | _ => none }
def packSizesRow : OpenClaim := { program := "ytckhmgglgbnaaaa", sum := "68cfcbf5195b483565b0b3211e0a9ffbcc13e8482d486b2053ef0f72c18ade69", func := "umbel/umbellaw19.PackSizes", spec := "packSizes", unfollowed := true, recurses := true, apart := false }
def PackSizesSaid : Prop := packSizesRow.holds Try.pinned (OpenSpec.ofChange packSizesSpec)

/-- ITS FALSE NEIGHBOUR: 'it returns false'. Refute it at one input. -/
def packSizesWrong : ChangeSpec := { name := "packSizes", fn := fun _ => fun
  | [d] => { results := [.lit (.bool false)], args := [d] }
  | _ => none }
def PackSizesWrongFalsely : Prop := packSizesRow.holds Try.pinned (OpenSpec.ofChange packSizesWrong)

/-- 'umbellaw20.SlotTells': WHATEVER THE INPUT: true; the input reads as it did. -/
def slotTellsSpec : ChangeSpec := { name := "slotTells", fn := fun _ => fun
  | [d1, d2, d3] => { results := [.lit (.bool true)], args := [d1, d2, d3] }
  | _ => none }
def slotTellsRow : OpenClaim := { program := "ytckhmgglgbnaaaa", sum := "68cfcbf5195b483565b0b3211e0a9ffbcc13e8482d486b2053ef0f72c18ade69", func := "umbel/umbellaw20.SlotTells", spec := "slotTells", inPlace := ["internal/abi.NoEscape"], unfollowed := true, recurses := true, apart := false }
def SlotTellsSaid : Prop := slotTellsRow.holds Try.pinned (OpenSpec.ofChange slotTellsSpec)

/-- ITS FALSE NEIGHBOUR: 'it returns false'. Refute it at one input. -/
def slotTellsWrong : ChangeSpec := { name := "slotTells", fn := fun _ => fun
  | [d1, d2, d3] => { results := [.lit (.bool false)], args := [d1, d2, d3] }
  | _ => none }
def SlotTellsWrongFalsely : Prop := slotTellsRow.holds Try.pinned (OpenSpec.ofChange slotTellsWrong)

/-- 'umbellaw20.SlotStrict': WHATEVER THE INPUT: true; the input reads as it did. -/
def slotStrictSpec : ChangeSpec := { name := "slotStrict", fn := fun _ => fun
  | [d1, d2] => { results := [.lit (.bool true)], args := [d1, d2] }
  | _ => none }
def slotStrictRow : OpenClaim := { program := "ytckhmgglgbnaaaa", sum := "68cfcbf5195b483565b0b3211e0a9ffbcc13e8482d486b2053ef0f72c18ade69", func := "umbel/umbellaw20.SlotStrict", spec := "slotStrict", inPlace := ["internal/abi.NoEscape"], unfollowed := true, recurses := true, apart := false }
def SlotStrictSaid : Prop := slotStrictRow.holds Try.pinned (OpenSpec.ofChange slotStrictSpec)

/-- ITS FALSE NEIGHBOUR: 'it returns false'. Refute it at one input. -/
def slotStrictWrong : ChangeSpec := { name := "slotStrict", fn := fun _ => fun
  | [d1, d2] => { results := [.lit (.bool false)], args := [d1, d2] }
  | _ => none }
def SlotStrictWrongFalsely : Prop := slotStrictRow.holds Try.pinned (OpenSpec.ofChange slotStrictWrong)

/-- 'umbellaw20.SlotPages': WHATEVER THE INPUT: true; the input reads as it did. -/
def slotPagesSpec : ChangeSpec := { name := "slotPages", fn := fun _ => fun
  | [d1, d2, d3] => { results := [.lit (.bool true)], args := [d1, d2, d3] }
  | _ => none }
def slotPagesRow : OpenClaim := { program := "ytckhmgglgbnaaaa", sum := "68cfcbf5195b483565b0b3211e0a9ffbcc13e8482d486b2053ef0f72c18ade69", func := "umbel/umbellaw20.SlotPages", spec := "slotPages", inPlace := ["internal/abi.NoEscape"], unfollowed := true, recurses := true, apart := false }
def SlotPagesSaid : Prop := slotPagesRow.holds Try.pinned (OpenSpec.ofChange slotPagesSpec)

/-- ITS FALSE NEIGHBOUR: 'it returns false'. Refute it at one input. -/
def slotPagesWrong : ChangeSpec := { name := "slotPages", fn := fun _ => fun
  | [d1, d2, d3] => { results := [.lit (.bool false)], args := [d1, d2, d3] }
  | _ => none }
def SlotPagesWrongFalsely : Prop := slotPagesRow.holds Try.pinned (OpenSpec.ofChange slotPagesWrong)

/-- 'umbellaw20.SlotBack': WHATEVER THE INPUT: true; the input reads as it did. -/
def slotBackSpec : ChangeSpec := { name := "slotBack", fn := fun _ => fun
  | [d1, d2] => { results := [.lit (.bool true)], args := [d1, d2] }
  | _ => none }
def slotBackRow : OpenClaim := { program := "ytckhmgglgbnaaaa", sum := "68cfcbf5195b483565b0b3211e0a9ffbcc13e8482d486b2053ef0f72c18ade69", func := "umbel/umbellaw20.SlotBack", spec := "slotBack", inPlace := ["internal/abi.NoEscape"], unfollowed := true, recurses := true, apart := false }
def SlotBackSaid : Prop := slotBackRow.holds Try.pinned (OpenSpec.ofChange slotBackSpec)

/-- ITS FALSE NEIGHBOUR: 'it returns false'. Refute it at one input. -/
def slotBackWrong : ChangeSpec := { name := "slotBack", fn := fun _ => fun
  | [d1, d2] => { results := [.lit (.bool false)], args := [d1, d2] }
  | _ => none }
def SlotBackWrongFalsely : Prop := slotBackRow.holds Try.pinned (OpenSpec.ofChange slotBackWrong)

/- THE SECOND FORM. 'bulk': how many values and letters a reading holds, each counted each time it is reached (what is shared counts as often as it is met; a slice's spare places count too). A statement '..UptoSaid' is the law's where the arguments, and the package variables that the reading takes, are together of bulk at most 1048576: NARROWER than '..Said'. Prove '..Said' where nothing that the law and all that it calls make is longer than what came in: it says more and counts as full. Else prove '..UptoSaid'. A law counts once. -/
mutual
def uptoBulk {H : Type} : DataW H → Nat
  | .lit (.string bytes) => bytes.length + 1
  | .lit _ => 1
  | .nil => 1
  | .ptr d => uptoBulk d + 1
  | .slice elems spare => uptoBulkAll elems + uptoBulkAll spare + 1
  | .agg parts => uptoBulkAll parts + 1
  | .iface _ d => uptoBulk d + 1
  | .map entries => uptoBulkEntries entries + 1
  | .held _ => 1
def uptoBulkAll {H : Type} : List (DataW H) → Nat
  | [] => 0
  | d :: r => uptoBulk d + uptoBulkAll r
def uptoBulkEntries {H : Type} : List (Lit × DataW H) → Nat
  | [] => 0
  | x :: r => uptoBulkEntry x + uptoBulkEntries r
def uptoBulkEntry {H : Type} : Lit × DataW H → Nat
  | (.string bytes, d) => bytes.length + uptoBulk d + 1
  | (_, d) => uptoBulk d + 1
 end
def uptoSmall : (H : Type) → List (DataW H) → Bool := fun _ ds => decide (uptoBulkAll ds ≤ 1048576)
def OpenSpec.upto (s : _root_.Go.ChangeSpec) : _root_.Go.OpenSpec := { _root_.Go.OpenSpec.ofChange s with cond := some uptoSmall }

/-- 'umbellaw19.PackTells', WHERE WHAT IT READS IS OF BULK AT MOST 1048576: true; the input reads as it did. -/
def packTellsUptoRow : OpenClaim := { program := "ytckhmgglgbnaaaa", sum := "68cfcbf5195b483565b0b3211e0a9ffbcc13e8482d486b2053ef0f72c18ade69", func := "umbel/umbellaw19.PackTells", spec := "packTells", unfollowed := true, recurses := true, apart := false, narrowed := true }
def PackTellsUptoSaid : Prop := packTellsUptoRow.holds Try.pinned (OpenSpec.upto packTellsSpec)

/-- 'umbellaw19.PackParts', WHERE WHAT IT READS IS OF BULK AT MOST 1048576: true; the input reads as it did. -/
def packPartsUptoRow : OpenClaim := { program := "ytckhmgglgbnaaaa", sum := "68cfcbf5195b483565b0b3211e0a9ffbcc13e8482d486b2053ef0f72c18ade69", func := "umbel/umbellaw19.PackParts", spec := "packParts", unfollowed := true, recurses := true, apart := false, narrowed := true }
def PackPartsUptoSaid : Prop := packPartsUptoRow.holds Try.pinned (OpenSpec.upto packPartsSpec)

/-- 'umbellaw19.PackFull', WHERE WHAT IT READS IS OF BULK AT MOST 1048576: true; the input reads as it did. -/
def packFullUptoRow : OpenClaim := { program := "ytckhmgglgbnaaaa", sum := "68cfcbf5195b483565b0b3211e0a9ffbcc13e8482d486b2053ef0f72c18ade69", func := "umbel/umbellaw19.PackFull", spec := "packFull", unfollowed := true, recurses := true, apart := false, narrowed := true }
def PackFullUptoSaid : Prop := packFullUptoRow.holds Try.pinned (OpenSpec.upto packFullSpec)

/-- 'umbellaw19.PackNear', WHERE WHAT IT READS IS OF BULK AT MOST 1048576: true; the input reads as it did. -/
def packNearUptoRow : OpenClaim := { program := "ytckhmgglgbnaaaa", sum := "68cfcbf5195b483565b0b3211e0a9ffbcc13e8482d486b2053ef0f72c18ade69", func := "umbel/umbellaw19.PackNear", spec := "packNear", unfollowed := true, recurses := true, apart := false, narrowed := true }
def PackNearUptoSaid : Prop := packNearUptoRow.holds Try.pinned (OpenSpec.upto packNearSpec)

/-- 'umbellaw19.PackSizes', WHERE WHAT IT READS IS OF BULK AT MOST 1048576: true; the input reads as it did. -/
def packSizesUptoRow : OpenClaim := { program := "ytckhmgglgbnaaaa", sum := "68cfcbf5195b483565b0b3211e0a9ffbcc13e8482d486b2053ef0f72c18ade69", func := "umbel/umbellaw19.PackSizes", spec := "packSizes", unfollowed := true, recurses := true, apart := false, narrowed := true }
def PackSizesUptoSaid : Prop := packSizesUptoRow.holds Try.pinned (OpenSpec.upto packSizesSpec)

/-- 'umbellaw20.SlotTells', WHERE WHAT IT READS IS OF BULK AT MOST 1048576: true; the input reads as it did. -/
def slotTellsUptoRow : OpenClaim := { program := "ytckhmgglgbnaaaa", sum := "68cfcbf5195b483565b0b3211e0a9ffbcc13e8482d486b2053ef0f72c18ade69", func := "umbel/umbellaw20.SlotTells", spec := "slotTells", inPlace := ["internal/abi.NoEscape"], unfollowed := true, recurses := true, apart := false, narrowed := true }
def SlotTellsUptoSaid : Prop := slotTellsUptoRow.holds Try.pinned (OpenSpec.upto slotTellsSpec)

/-- 'umbellaw20.SlotStrict', WHERE WHAT IT READS IS OF BULK AT MOST 1048576: true; the input reads as it did. -/
def slotStrictUptoRow : OpenClaim := { program := "ytckhmgglgbnaaaa", sum := "68cfcbf5195b483565b0b3211e0a9ffbcc13e8482d486b2053ef0f72c18ade69", func := "umbel/umbellaw20.SlotStrict", spec := "slotStrict", inPlace := ["internal/abi.NoEscape"], unfollowed := true, recurses := true, apart := false, narrowed := true }
def SlotStrictUptoSaid : Prop := slotStrictUptoRow.holds Try.pinned (OpenSpec.upto slotStrictSpec)

/-- 'umbellaw20.SlotPages', WHERE WHAT IT READS IS OF BULK AT MOST 1048576: true; the input reads as it did. -/
def slotPagesUptoRow : OpenClaim := { program := "ytckhmgglgbnaaaa", sum := "68cfcbf5195b483565b0b3211e0a9ffbcc13e8482d486b2053ef0f72c18ade69", func := "umbel/umbellaw20.SlotPages", spec := "slotPages", inPlace := ["internal/abi.NoEscape"], unfollowed := true, recurses := true, apart := false, narrowed := true }
def SlotPagesUptoSaid : Prop := slotPagesUptoRow.holds Try.pinned (OpenSpec.upto slotPagesSpec)

/-- 'umbellaw20.SlotBack', WHERE WHAT IT READS IS OF BULK AT MOST 1048576: true; the input reads as it did. -/
def slotBackUptoRow : OpenClaim := { program := "ytckhmgglgbnaaaa", sum := "68cfcbf5195b483565b0b3211e0a9ffbcc13e8482d486b2053ef0f72c18ade69", func := "umbel/umbellaw20.SlotBack", spec := "slotBack", inPlace := ["internal/abi.NoEscape"], unfollowed := true, recurses := true, apart := false, narrowed := true }
def SlotBackUptoSaid : Prop := slotBackUptoRow.holds Try.pinned (OpenSpec.upto slotBackSpec)

end Rows
end Go.Proofs.Ytckhmgglgbnaaaa
