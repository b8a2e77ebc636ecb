/-
  DERIVED. GIVEN WITH THE SEED: THE CARDS: each row of YtpcgkiecjakknaaGreatDoorRows.lean that lists a variable, with what it lists TIED to the program's text (the seventh form; the later family's looks); each row that meets fmt, with fmt's text TOLD by the authors' own Lean function (tested against real Go, not proved from fmt's source: count such statements apart). THE CARD IS WHAT COUNTS. Prove the row's statement (the work); the ties are given (YtpcgkiecjakknaaGreatDoorTie.lean); close each card by the builder's one call (the guide's Derived/Test/ToyasCard.lean, 'card_holds'). Laid BY PROGRAM, IN A SANDBOX (cutbox-door.mjs). By AI agents, Wed Nov 11 2026. No macro, syntax, notation, axiom, sorry.
-/
import Derived.Test.YtpcgkiecjakknaaGreatDoorRows
import GoSem.ClaimSeven
namespace Go.Proofs.YtpcgkiecjakknaaGreatDoor
namespace Rows

/-- THE TIED CARD OF 'mootlaw19.GameNil'. -/
def gameNilCard : Claim7 := { stood := { row := gameNilRow, standIns := [], harness := (true, "6901543c600f72b271c2c721db32d7360c54713624480db23c3e9e1f6b23ccb6"), looks := true }, kinds := [], alts := [], laidByText := true, laidKinds := [.handle, .data, .data, .data], laidTests := true, laidLooks := .later }
def GameNilCardSaid : Prop := Claim7.holds Tryz.pinned (.plain (OpenSpec.ofChange gameNilSpec)) gameNilCard

/-- THE TIED CARD OF 'mootlaw19.GameHolds'. -/
def gameHoldsCard : Claim7 := { stood := { row := gameHoldsRow, standIns := [], harness := (true, "6901543c600f72b271c2c721db32d7360c54713624480db23c3e9e1f6b23ccb6"), looks := true }, kinds := [], alts := [], laidByText := true, laidKinds := [.handle, .data, .data, .data], laidTests := true, laidLooks := .later }
def GameHoldsCardSaid : Prop := Claim7.holds Tryz.pinned (.plain (OpenSpec.ofChange gameHoldsSpec)) gameHoldsCard

/-- THE TIED CARD OF 'mootlaw19.GameTree'. -/
def gameTreeCard : Claim7 := { stood := { row := gameTreeRow, standIns := [], harness := (true, "6901543c600f72b271c2c721db32d7360c54713624480db23c3e9e1f6b23ccb6"), looks := true }, kinds := [], alts := [], laidByText := true, laidKinds := [.handle, .data, .data, .data], laidTests := true, laidLooks := .later }
def GameTreeCardSaid : Prop := Claim7.holds Tryz.pinned (.plain (OpenSpec.ofChange gameTreeSpec)) gameTreeCard

/-- THE TIED CARD OF 'mootlaw19.GameBonds'. -/
def gameBondsCard : Claim7 := { stood := { row := gameBondsRow, standIns := [], harness := (true, "6901543c600f72b271c2c721db32d7360c54713624480db23c3e9e1f6b23ccb6"), looks := true }, kinds := [], alts := [], laidByText := true, laidKinds := [.handle, .data, .data, .data], laidTests := true, laidLooks := .later }
def GameBondsCardSaid : Prop := Claim7.holds Tryz.pinned (.plain (OpenSpec.ofChange gameBondsSpec)) gameBondsCard

/-- THE TIED CARD OF 'mootlaw19.GameClocks'. -/
def gameClocksCard : Claim7 := { stood := { row := gameClocksRow, standIns := [], harness := (true, "6901543c600f72b271c2c721db32d7360c54713624480db23c3e9e1f6b23ccb6"), looks := true }, kinds := [], alts := [], laidByText := true, laidKinds := [.handle, .data, .data, .data], laidTests := true, laidLooks := .later }
def GameClocksCardSaid : Prop := Claim7.holds Tryz.pinned (.plain (OpenSpec.ofChange gameClocksSpec)) gameClocksCard

/-- THE TIED CARD OF 'mootlaw19.GameEnds'. -/
def gameEndsCard : Claim7 := { stood := { row := gameEndsRow, standIns := [], harness := (true, "6901543c600f72b271c2c721db32d7360c54713624480db23c3e9e1f6b23ccb6"), looks := true }, kinds := [], alts := [], laidByText := true, laidKinds := [.handle, .data, .data, .data], laidTests := true, laidLooks := .later }
def GameEndsCardSaid : Prop := Claim7.holds Tryz.pinned (.plain (OpenSpec.ofChange gameEndsSpec)) gameEndsCard

/-- THE TIED CARD OF 'mootlaw19.GamePlays'. -/
def gamePlaysCard : Claim7 := { stood := { row := gamePlaysRow, standIns := [], harness := (true, "6901543c600f72b271c2c721db32d7360c54713624480db23c3e9e1f6b23ccb6"), looks := true }, kinds := [], alts := [], laidByText := true, laidKinds := [.handle, .data, .data, .data], laidTests := true, laidLooks := .later }
def GamePlaysCardSaid : Prop := Claim7.holds Tryz.pinned (.plain (OpenSpec.ofChange gamePlaysSpec)) gamePlaysCard

/-- THE SECOND FORM's CARD OF 'mootlaw19.GameNil'. -/
def gameNilUptoCard : Claim7 := { stood := { row := gameNilUptoRow, standIns := [], harness := (true, "6901543c600f72b271c2c721db32d7360c54713624480db23c3e9e1f6b23ccb6"), looks := true }, kinds := [], alts := [], laidByText := true, laidKinds := [.handle, .data, .data, .data], laidTests := true, laidLooks := .later }
def GameNilUptoCardSaid : Prop := Claim7.holds Tryz.pinned (.plain (OpenSpec.upto gameNilSpec)) gameNilUptoCard

/-- THE SECOND FORM's CARD OF 'mootlaw19.GameHolds'. -/
def gameHoldsUptoCard : Claim7 := { stood := { row := gameHoldsUptoRow, standIns := [], harness := (true, "6901543c600f72b271c2c721db32d7360c54713624480db23c3e9e1f6b23ccb6"), looks := true }, kinds := [], alts := [], laidByText := true, laidKinds := [.handle, .data, .data, .data], laidTests := true, laidLooks := .later }
def GameHoldsUptoCardSaid : Prop := Claim7.holds Tryz.pinned (.plain (OpenSpec.upto gameHoldsSpec)) gameHoldsUptoCard

/-- THE SECOND FORM's CARD OF 'mootlaw19.GameTree'. -/
def gameTreeUptoCard : Claim7 := { stood := { row := gameTreeUptoRow, standIns := [], harness := (true, "6901543c600f72b271c2c721db32d7360c54713624480db23c3e9e1f6b23ccb6"), looks := true }, kinds := [], alts := [], laidByText := true, laidKinds := [.handle, .data, .data, .data], laidTests := true, laidLooks := .later }
def GameTreeUptoCardSaid : Prop := Claim7.holds Tryz.pinned (.plain (OpenSpec.upto gameTreeSpec)) gameTreeUptoCard

/-- THE SECOND FORM's CARD OF 'mootlaw19.GameBonds'. -/
def gameBondsUptoCard : Claim7 := { stood := { row := gameBondsUptoRow, standIns := [], harness := (true, "6901543c600f72b271c2c721db32d7360c54713624480db23c3e9e1f6b23ccb6"), looks := true }, kinds := [], alts := [], laidByText := true, laidKinds := [.handle, .data, .data, .data], laidTests := true, laidLooks := .later }
def GameBondsUptoCardSaid : Prop := Claim7.holds Tryz.pinned (.plain (OpenSpec.upto gameBondsSpec)) gameBondsUptoCard

/-- THE SECOND FORM's CARD OF 'mootlaw19.GameClocks'. -/
def gameClocksUptoCard : Claim7 := { stood := { row := gameClocksUptoRow, standIns := [], harness := (true, "6901543c600f72b271c2c721db32d7360c54713624480db23c3e9e1f6b23ccb6"), looks := true }, kinds := [], alts := [], laidByText := true, laidKinds := [.handle, .data, .data, .data], laidTests := true, laidLooks := .later }
def GameClocksUptoCardSaid : Prop := Claim7.holds Tryz.pinned (.plain (OpenSpec.upto gameClocksSpec)) gameClocksUptoCard

/-- THE SECOND FORM's CARD OF 'mootlaw19.GameEnds'. -/
def gameEndsUptoCard : Claim7 := { stood := { row := gameEndsUptoRow, standIns := [], harness := (true, "6901543c600f72b271c2c721db32d7360c54713624480db23c3e9e1f6b23ccb6"), looks := true }, kinds := [], alts := [], laidByText := true, laidKinds := [.handle, .data, .data, .data], laidTests := true, laidLooks := .later }
def GameEndsUptoCardSaid : Prop := Claim7.holds Tryz.pinned (.plain (OpenSpec.upto gameEndsSpec)) gameEndsUptoCard

/-- THE SECOND FORM's CARD OF 'mootlaw19.GamePlays'. -/
def gamePlaysUptoCard : Claim7 := { stood := { row := gamePlaysUptoRow, standIns := [], harness := (true, "6901543c600f72b271c2c721db32d7360c54713624480db23c3e9e1f6b23ccb6"), looks := true }, kinds := [], alts := [], laidByText := true, laidKinds := [.handle, .data, .data, .data], laidTests := true, laidLooks := .later }
def GamePlaysUptoCardSaid : Prop := Claim7.holds Tryz.pinned (.plain (OpenSpec.upto gamePlaysSpec)) gamePlaysUptoCard
end Rows
end Go.Proofs.YtpcgkiecjakknaaGreatDoor
