/-
  DERIVED. GIVEN WITH THE SEED: THE CARDS: each row of YtckhmgglgbnaaaaDoorRows.lean that lists a variable, with what it lists TIED to the program's text (the seventh form; the later family's looks); each row that meets fmt, with fmt's text TOLD by the authors' own Lean function (tested against real Go, not proved from fmt's source: count such statements apart). THE CARD IS WHAT COUNTS. Prove the row's statement (the work); the ties are given (YtckhmgglgbnaaaaDoorTie.lean); close each card by the builder's one call (the guide's Derived/Test/ToyasCard.lean, 'card_holds'). Laid BY PROGRAM, IN A SANDBOX (cutbox-door.mjs). By AI agents, Wed Nov 11 2026. No macro, syntax, notation, axiom, sorry.
-/
import Derived.Test.YtckhmgglgbnaaaaDoorRows
import GoSem.ClaimSeven
namespace Go.Proofs.YtckhmgglgbnaaaaDoor
namespace Rows

/-- THE TIED CARD OF 'umbellaw11.RootTells'. -/
def rootTellsCard : Claim7 := { stood := { row := rootTellsRow, standIns := [], harness := (true, "bdb2fa4acabacd2545b1364625a092664d4c498b043b20e396267cd9072c5cff"), looks := false }, kinds := [], alts := [], laidByText := true, laidKinds := [.data, .data], laidTests := true, laidLooks := .later }
def RootTellsCardSaid : Prop := Claim7.holds Tryd.pinned (.plain (OpenSpec.ofChange rootTellsSpec)) rootTellsCard

/-- THE TIED CARD OF 'umbellaw11.RootContents'. -/
def rootContentsCard : Claim7 := { stood := { row := rootContentsRow, standIns := [], harness := (true, "bdb2fa4acabacd2545b1364625a092664d4c498b043b20e396267cd9072c5cff"), looks := false }, kinds := [], alts := [], laidByText := true, laidKinds := [.data, .data], laidTests := true, laidLooks := .later }
def RootContentsCardSaid : Prop := Claim7.holds Tryd.pinned (.plain (OpenSpec.ofChange rootContentsSpec)) rootContentsCard

/-- THE TIED CARD OF 'umbellaw11.RootItems'. -/
def rootItemsCard : Claim7 := { stood := { row := rootItemsRow, standIns := [], harness := (true, "bdb2fa4acabacd2545b1364625a092664d4c498b043b20e396267cd9072c5cff"), looks := false }, kinds := [], alts := [], laidByText := true, laidKinds := [.data, .data], laidTests := true, laidLooks := .later }
def RootItemsCardSaid : Prop := Claim7.holds Tryd.pinned (.plain (OpenSpec.ofChange rootItemsSpec)) rootItemsCard

/-- THE TIED CARD OF 'umbellaw11.RootValue'. -/
def rootValueCard : Claim7 := { stood := { row := rootValueRow, standIns := [], harness := (true, "bdb2fa4acabacd2545b1364625a092664d4c498b043b20e396267cd9072c5cff"), looks := false }, kinds := [], alts := [], laidByText := true, laidKinds := [.data, .data], laidTests := true, laidLooks := .later }
def RootValueCardSaid : Prop := Claim7.holds Tryd.pinned (.plain (OpenSpec.ofChange rootValueSpec)) rootValueCard

/-- THE TIED CARD OF 'umbellaw11.RootLeaf'. -/
def rootLeafCard : Claim7 := { stood := { row := rootLeafRow, standIns := [], harness := (true, "bdb2fa4acabacd2545b1364625a092664d4c498b043b20e396267cd9072c5cff"), looks := false }, kinds := [], alts := [], laidByText := true, laidKinds := [.data, .data], laidTests := true, laidLooks := .later }
def RootLeafCardSaid : Prop := Claim7.holds Tryd.pinned (.plain (OpenSpec.ofChange rootLeafSpec)) rootLeafCard

/-- THE TIED CARD OF 'umbellaw16.ProveTells'. -/
def proveTellsCard : Claim7 := { stood := { row := proveTellsRow, standIns := [], harness := (true, "bdb2fa4acabacd2545b1364625a092664d4c498b043b20e396267cd9072c5cff"), looks := false }, kinds := [], alts := [], laidByText := true, laidKinds := [.data, .data], laidTests := true, laidLooks := .later }
def ProveTellsCardSaid : Prop := Claim7.holds Tryd.pinned (.plain (OpenSpec.ofChange proveTellsSpec)) proveTellsCard

/-- THE TIED CARD OF 'umbellaw16.ProveSame'. -/
def proveSameCard : Claim7 := { stood := { row := proveSameRow, standIns := [], harness := (true, "bdb2fa4acabacd2545b1364625a092664d4c498b043b20e396267cd9072c5cff"), looks := false }, kinds := [], alts := [], laidByText := true, laidKinds := [.data, .data], laidTests := true, laidLooks := .later }
def ProveSameCardSaid : Prop := Claim7.holds Tryd.pinned (.plain (OpenSpec.ofChange proveSameSpec)) proveSameCard

/-- THE TIED CARD OF 'umbellaw16.ProveChains'. -/
def proveChainsCard : Claim7 := { stood := { row := proveChainsRow, standIns := [], harness := (true, "bdb2fa4acabacd2545b1364625a092664d4c498b043b20e396267cd9072c5cff"), looks := false }, kinds := [], alts := [], laidByText := true, laidKinds := [.data, .data], laidTests := true, laidLooks := .later }
def ProveChainsCardSaid : Prop := Claim7.holds Tryd.pinned (.plain (OpenSpec.ofChange proveChainsSpec)) proveChainsCard

/-- THE TIED CARD OF 'umbellaw16.ProveAll'. -/
def proveAllCard : Claim7 := { stood := { row := proveAllRow, standIns := [], harness := (true, "bdb2fa4acabacd2545b1364625a092664d4c498b043b20e396267cd9072c5cff"), looks := false }, kinds := [], alts := [], laidByText := true, laidKinds := [.data, .data], laidTests := true, laidLooks := .later }
def ProveAllCardSaid : Prop := Claim7.holds Tryd.pinned (.plain (OpenSpec.ofChange proveAllSpec)) proveAllCard

/-- THE SECOND FORM's CARD OF 'umbellaw11.RootTells'. -/
def rootTellsUptoCard : Claim7 := { stood := { row := rootTellsUptoRow, standIns := [], harness := (true, "bdb2fa4acabacd2545b1364625a092664d4c498b043b20e396267cd9072c5cff"), looks := false }, kinds := [], alts := [], laidByText := true, laidKinds := [.data, .data], laidTests := true, laidLooks := .later }
def RootTellsUptoCardSaid : Prop := Claim7.holds Tryd.pinned (.plain (OpenSpec.upto rootTellsSpec)) rootTellsUptoCard

/-- THE SECOND FORM's CARD OF 'umbellaw11.RootContents'. -/
def rootContentsUptoCard : Claim7 := { stood := { row := rootContentsUptoRow, standIns := [], harness := (true, "bdb2fa4acabacd2545b1364625a092664d4c498b043b20e396267cd9072c5cff"), looks := false }, kinds := [], alts := [], laidByText := true, laidKinds := [.data, .data], laidTests := true, laidLooks := .later }
def RootContentsUptoCardSaid : Prop := Claim7.holds Tryd.pinned (.plain (OpenSpec.upto rootContentsSpec)) rootContentsUptoCard

/-- THE SECOND FORM's CARD OF 'umbellaw11.RootItems'. -/
def rootItemsUptoCard : Claim7 := { stood := { row := rootItemsUptoRow, standIns := [], harness := (true, "bdb2fa4acabacd2545b1364625a092664d4c498b043b20e396267cd9072c5cff"), looks := false }, kinds := [], alts := [], laidByText := true, laidKinds := [.data, .data], laidTests := true, laidLooks := .later }
def RootItemsUptoCardSaid : Prop := Claim7.holds Tryd.pinned (.plain (OpenSpec.upto rootItemsSpec)) rootItemsUptoCard

/-- THE SECOND FORM's CARD OF 'umbellaw11.RootValue'. -/
def rootValueUptoCard : Claim7 := { stood := { row := rootValueUptoRow, standIns := [], harness := (true, "bdb2fa4acabacd2545b1364625a092664d4c498b043b20e396267cd9072c5cff"), looks := false }, kinds := [], alts := [], laidByText := true, laidKinds := [.data, .data], laidTests := true, laidLooks := .later }
def RootValueUptoCardSaid : Prop := Claim7.holds Tryd.pinned (.plain (OpenSpec.upto rootValueSpec)) rootValueUptoCard

/-- THE SECOND FORM's CARD OF 'umbellaw11.RootLeaf'. -/
def rootLeafUptoCard : Claim7 := { stood := { row := rootLeafUptoRow, standIns := [], harness := (true, "bdb2fa4acabacd2545b1364625a092664d4c498b043b20e396267cd9072c5cff"), looks := false }, kinds := [], alts := [], laidByText := true, laidKinds := [.data, .data], laidTests := true, laidLooks := .later }
def RootLeafUptoCardSaid : Prop := Claim7.holds Tryd.pinned (.plain (OpenSpec.upto rootLeafSpec)) rootLeafUptoCard

/-- THE SECOND FORM's CARD OF 'umbellaw16.ProveTells'. -/
def proveTellsUptoCard : Claim7 := { stood := { row := proveTellsUptoRow, standIns := [], harness := (true, "bdb2fa4acabacd2545b1364625a092664d4c498b043b20e396267cd9072c5cff"), looks := false }, kinds := [], alts := [], laidByText := true, laidKinds := [.data, .data], laidTests := true, laidLooks := .later }
def ProveTellsUptoCardSaid : Prop := Claim7.holds Tryd.pinned (.plain (OpenSpec.upto proveTellsSpec)) proveTellsUptoCard

/-- THE SECOND FORM's CARD OF 'umbellaw16.ProveSame'. -/
def proveSameUptoCard : Claim7 := { stood := { row := proveSameUptoRow, standIns := [], harness := (true, "bdb2fa4acabacd2545b1364625a092664d4c498b043b20e396267cd9072c5cff"), looks := false }, kinds := [], alts := [], laidByText := true, laidKinds := [.data, .data], laidTests := true, laidLooks := .later }
def ProveSameUptoCardSaid : Prop := Claim7.holds Tryd.pinned (.plain (OpenSpec.upto proveSameSpec)) proveSameUptoCard

/-- THE SECOND FORM's CARD OF 'umbellaw16.ProveChains'. -/
def proveChainsUptoCard : Claim7 := { stood := { row := proveChainsUptoRow, standIns := [], harness := (true, "bdb2fa4acabacd2545b1364625a092664d4c498b043b20e396267cd9072c5cff"), looks := false }, kinds := [], alts := [], laidByText := true, laidKinds := [.data, .data], laidTests := true, laidLooks := .later }
def ProveChainsUptoCardSaid : Prop := Claim7.holds Tryd.pinned (.plain (OpenSpec.upto proveChainsSpec)) proveChainsUptoCard

/-- THE SECOND FORM's CARD OF 'umbellaw16.ProveAll'. -/
def proveAllUptoCard : Claim7 := { stood := { row := proveAllUptoRow, standIns := [], harness := (true, "bdb2fa4acabacd2545b1364625a092664d4c498b043b20e396267cd9072c5cff"), looks := false }, kinds := [], alts := [], laidByText := true, laidKinds := [.data, .data], laidTests := true, laidLooks := .later }
def ProveAllUptoCardSaid : Prop := Claim7.holds Tryd.pinned (.plain (OpenSpec.upto proveAllSpec)) proveAllUptoCard
end Rows
end Go.Proofs.YtckhmgglgbnaaaaDoor
