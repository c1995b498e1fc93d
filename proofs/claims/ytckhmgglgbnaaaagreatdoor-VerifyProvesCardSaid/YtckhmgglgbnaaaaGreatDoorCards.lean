/-
  DERIVED. GIVEN WITH THE SEED: THE CARDS: each row of YtckhmgglgbnaaaaGreatDoorRows.lean that lists a variable, with what it lists TIED to the program's text (the seventh form; the later family's looks); each row that meets fmt, with fmt's text TOLD by the authors' own Lean function (tested against real Go, not proved from fmt's source: count such statements apart). THE CARD IS WHAT COUNTS. Prove the row's statement (the work); the ties are given (YtckhmgglgbnaaaaGreatDoorTie.lean); close each card by the builder's one call (the guide's Derived/Test/ToyasCard.lean, 'card_holds'). Laid BY PROGRAM, IN A SANDBOX (cutbox-door.mjs). By AI agents, Wed Nov 11 2026. No macro, syntax, notation, axiom, sorry.
-/
import Derived.Test.YtckhmgglgbnaaaaGreatDoorRows
import GoSem.ClaimSeven
namespace Go.Proofs.YtckhmgglgbnaaaaGreatDoor
namespace Rows

/-- THE TIED CARD OF 'umbellaw17.VerifyProves'. -/
def verifyProvesCard : Claim7 := { stood := { row := verifyProvesRow, standIns := [], harness := (true, "7ecd1c4858af23f49de016968d589cd15cb8709d3944f168c2f019bfa99ea7b0"), looks := false }, kinds := [], alts := [], laidByText := true, laidKinds := [.data, .data], laidTests := true, laidLooks := .later }
def VerifyProvesCardSaid : Prop := Claim7.holds Tryz.pinned (.plain (OpenSpec.ofChange verifyProvesSpec)) verifyProvesCard

/-- THE TIED CARD OF 'umbellaw24.LoadRound'. -/
def loadRoundCard : Claim7 := { stood := { row := loadRoundRow, standIns := [], harness := (true, "7ecd1c4858af23f49de016968d589cd15cb8709d3944f168c2f019bfa99ea7b0"), looks := false }, kinds := [], alts := [], laidByText := true, laidKinds := [.data, .data, .data], laidTests := true, laidLooks := .later }
def LoadRoundCardSaid : Prop := Claim7.holds Tryz.pinned (.plain (OpenSpec.ofChange loadRoundSpec)) loadRoundCard

/-- THE TIED CARD OF 'umbellaw24.LoadFrames'. -/
def loadFramesCard : Claim7 := { stood := { row := loadFramesRow, standIns := [], harness := (true, "7ecd1c4858af23f49de016968d589cd15cb8709d3944f168c2f019bfa99ea7b0"), looks := false }, kinds := [], alts := [], laidByText := true, laidKinds := [.data, .data, .data], laidTests := true, laidLooks := .later }
def LoadFramesCardSaid : Prop := Claim7.holds Tryz.pinned (.plain (OpenSpec.ofChange loadFramesSpec)) loadFramesCard

/-- THE TIED CARD OF 'umbellaw24.LoadBack'. -/
def loadBackCard : Claim7 := { stood := { row := loadBackRow, standIns := [], harness := (true, "7ecd1c4858af23f49de016968d589cd15cb8709d3944f168c2f019bfa99ea7b0"), looks := false }, kinds := [], alts := [], laidByText := true, laidKinds := [.data, .data, .data], laidTests := true, laidLooks := .later }
def LoadBackCardSaid : Prop := Claim7.holds Tryz.pinned (.plain (OpenSpec.ofChange loadBackSpec)) loadBackCard

/-- THE SECOND FORM's CARD OF 'umbellaw17.VerifyProves'. -/
def verifyProvesUptoCard : Claim7 := { stood := { row := verifyProvesUptoRow, standIns := [], harness := (true, "7ecd1c4858af23f49de016968d589cd15cb8709d3944f168c2f019bfa99ea7b0"), looks := false }, kinds := [], alts := [], laidByText := true, laidKinds := [.data, .data], laidTests := true, laidLooks := .later }
def VerifyProvesUptoCardSaid : Prop := Claim7.holds Tryz.pinned (.plain (OpenSpec.upto verifyProvesSpec)) verifyProvesUptoCard

/-- THE SECOND FORM's CARD OF 'umbellaw24.LoadRound'. -/
def loadRoundUptoCard : Claim7 := { stood := { row := loadRoundUptoRow, standIns := [], harness := (true, "7ecd1c4858af23f49de016968d589cd15cb8709d3944f168c2f019bfa99ea7b0"), looks := false }, kinds := [], alts := [], laidByText := true, laidKinds := [.data, .data, .data], laidTests := true, laidLooks := .later }
def LoadRoundUptoCardSaid : Prop := Claim7.holds Tryz.pinned (.plain (OpenSpec.upto loadRoundSpec)) loadRoundUptoCard

/-- THE SECOND FORM's CARD OF 'umbellaw24.LoadFrames'. -/
def loadFramesUptoCard : Claim7 := { stood := { row := loadFramesUptoRow, standIns := [], harness := (true, "7ecd1c4858af23f49de016968d589cd15cb8709d3944f168c2f019bfa99ea7b0"), looks := false }, kinds := [], alts := [], laidByText := true, laidKinds := [.data, .data, .data], laidTests := true, laidLooks := .later }
def LoadFramesUptoCardSaid : Prop := Claim7.holds Tryz.pinned (.plain (OpenSpec.upto loadFramesSpec)) loadFramesUptoCard

/-- THE SECOND FORM's CARD OF 'umbellaw24.LoadBack'. -/
def loadBackUptoCard : Claim7 := { stood := { row := loadBackUptoRow, standIns := [], harness := (true, "7ecd1c4858af23f49de016968d589cd15cb8709d3944f168c2f019bfa99ea7b0"), looks := false }, kinds := [], alts := [], laidByText := true, laidKinds := [.data, .data, .data], laidTests := true, laidLooks := .later }
def LoadBackUptoCardSaid : Prop := Claim7.holds Tryz.pinned (.plain (OpenSpec.upto loadBackSpec)) loadBackUptoCard
end Rows
end Go.Proofs.YtckhmgglgbnaaaaGreatDoor
