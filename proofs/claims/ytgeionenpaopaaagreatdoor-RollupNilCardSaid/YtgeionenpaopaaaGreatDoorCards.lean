/-
  DERIVED. GIVEN WITH THE SEED: THE CARDS: each row of YtgeionenpaopaaaGreatDoorRows.lean that lists a variable, with what it lists TIED to the program's text (the seventh form; the later family's looks); each row that meets fmt, with fmt's text TOLD by the authors' own Lean function (tested against real Go, not proved from fmt's source: count such statements apart). THE CARD IS WHAT COUNTS. Prove the row's statement (the work); the ties are given (YtgeionenpaopaaaGreatDoorTie.lean); close each card by the builder's one call (the guide's Derived/Test/ToyasCard.lean, 'card_holds'). Laid BY PROGRAM, IN A SANDBOX (cutbox-door.mjs). By AI agents, Wed Nov 11 2026. No macro, syntax, notation, axiom, sorry.
-/
import Derived.Test.YtgeionenpaopaaaGreatDoorRows
import GoSem.ClaimSeven
namespace Go.Proofs.YtgeionenpaopaaaGreatDoor
namespace Rows

/-- THE TIED CARD OF 'mootlaw21.RollupNil'. -/
def rollupNilCard : Claim7 := { stood := { row := rollupNilRow, standIns := [], harness := (true, "8c85aa1114bb9b64c5df8166720e97bfaa78f816109cd545d7bb9b8f6933533d"), looks := true }, kinds := [], alts := [], laidByText := true, laidKinds := [.data, .data, .data], laidTests := true, laidLooks := .later }
def RollupNilCardSaid : Prop := Claim7.holds Tryz.pinned (.plain (OpenSpec.ofChange rollupNilSpec)) rollupNilCard

/-- THE TIED CARD OF 'mootlaw21.RollupTurns'. -/
def rollupTurnsCard : Claim7 := { stood := { row := rollupTurnsRow, standIns := [], harness := (true, "8c85aa1114bb9b64c5df8166720e97bfaa78f816109cd545d7bb9b8f6933533d"), looks := true }, kinds := [], alts := [], laidByText := true, laidKinds := [.data, .data, .data], laidTests := true, laidLooks := .later }
def RollupTurnsCardSaid : Prop := Claim7.holds Tryz.pinned (.plain (OpenSpec.ofChange rollupTurnsSpec)) rollupTurnsCard

/-- THE TIED CARD OF 'mootlaw21.RollupPlays'. -/
def rollupPlaysCard : Claim7 := { stood := { row := rollupPlaysRow, standIns := [], harness := (true, "8c85aa1114bb9b64c5df8166720e97bfaa78f816109cd545d7bb9b8f6933533d"), looks := true }, kinds := [], alts := [], laidByText := true, laidKinds := [.handle, .data, .data, .data], laidTests := true, laidLooks := .later }
def RollupPlaysCardSaid : Prop := Claim7.holds Tryz.pinned (.plain (OpenSpec.ofChange rollupPlaysSpec)) rollupPlaysCard

/-- THE SECOND FORM's CARD OF 'mootlaw21.RollupNil'. -/
def rollupNilUptoCard : Claim7 := { stood := { row := rollupNilUptoRow, standIns := [], harness := (true, "8c85aa1114bb9b64c5df8166720e97bfaa78f816109cd545d7bb9b8f6933533d"), looks := true }, kinds := [], alts := [], laidByText := true, laidKinds := [.data, .data, .data], laidTests := true, laidLooks := .later }
def RollupNilUptoCardSaid : Prop := Claim7.holds Tryz.pinned (.plain (OpenSpec.upto rollupNilSpec)) rollupNilUptoCard

/-- THE SECOND FORM's CARD OF 'mootlaw21.RollupTurns'. -/
def rollupTurnsUptoCard : Claim7 := { stood := { row := rollupTurnsUptoRow, standIns := [], harness := (true, "8c85aa1114bb9b64c5df8166720e97bfaa78f816109cd545d7bb9b8f6933533d"), looks := true }, kinds := [], alts := [], laidByText := true, laidKinds := [.data, .data, .data], laidTests := true, laidLooks := .later }
def RollupTurnsUptoCardSaid : Prop := Claim7.holds Tryz.pinned (.plain (OpenSpec.upto rollupTurnsSpec)) rollupTurnsUptoCard

/-- THE SECOND FORM's CARD OF 'mootlaw21.RollupPlays'. -/
def rollupPlaysUptoCard : Claim7 := { stood := { row := rollupPlaysUptoRow, standIns := [], harness := (true, "8c85aa1114bb9b64c5df8166720e97bfaa78f816109cd545d7bb9b8f6933533d"), looks := true }, kinds := [], alts := [], laidByText := true, laidKinds := [.handle, .data, .data, .data], laidTests := true, laidLooks := .later }
def RollupPlaysUptoCardSaid : Prop := Claim7.holds Tryz.pinned (.plain (OpenSpec.upto rollupPlaysSpec)) rollupPlaysUptoCard
end Rows
end Go.Proofs.YtgeionenpaopaaaGreatDoor
