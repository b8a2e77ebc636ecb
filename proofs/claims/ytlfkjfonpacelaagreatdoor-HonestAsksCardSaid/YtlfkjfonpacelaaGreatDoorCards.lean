/-
  DERIVED. GIVEN WITH THE SEED: THE CARDS: each row of YtlfkjfonpacelaaGreatDoorRows.lean that lists a variable, with what it lists TIED to the program's text (the seventh form; the later family's looks); each row that meets fmt, with fmt's text TOLD by the authors' own Lean function (tested against real Go, not proved from fmt's source: count such statements apart). THE CARD IS WHAT COUNTS. Prove the row's statement (the work); the ties are given (YtlfkjfonpacelaaGreatDoorTie.lean); close each card by the builder's one call (the guide's Derived/Test/ToyasCard.lean, 'card_holds'). Laid BY PROGRAM, IN A SANDBOX (cutbox-door.mjs). By AI agents, Wed Nov 11 2026. No macro, syntax, notation, axiom, sorry.
-/
import Derived.Test.YtlfkjfonpacelaaGreatDoorRows
import GoSem.ClaimSeven
namespace Go.Proofs.YtlfkjfonpacelaaGreatDoor
namespace Rows

/-- THE TIED CARD OF 'mootlaw20.HonestNil'. -/
def honestNilCard : Claim7 := { stood := { row := honestNilRow, standIns := [], harness := (true, "e0d53617309820564ee7f26b314b09e25c40a4e45aadbc9ed78661b437ab6855"), looks := true }, kinds := [], alts := [], laidByText := true, laidKinds := [.data, .data, .data], laidTests := true, laidLooks := .later }
def HonestNilCardSaid : Prop := Claim7.holds Tryz.pinned (.plain (OpenSpec.ofChange honestNilSpec)) honestNilCard

/-- THE TIED CARD OF 'mootlaw20.HonestAbsent'. -/
def honestAbsentCard : Claim7 := { stood := { row := honestAbsentRow, standIns := [], harness := (true, "e0d53617309820564ee7f26b314b09e25c40a4e45aadbc9ed78661b437ab6855"), looks := true }, kinds := [], alts := [], laidByText := true, laidKinds := [.data, .data, .data], laidTests := true, laidLooks := .later }
def HonestAbsentCardSaid : Prop := Claim7.holds Tryz.pinned (.plain (OpenSpec.ofChange honestAbsentSpec)) honestAbsentCard

/-- THE TIED CARD OF 'mootlaw20.HonestTraces'. -/
def honestTracesCard : Claim7 := { stood := { row := honestTracesRow, standIns := [], harness := (true, "e0d53617309820564ee7f26b314b09e25c40a4e45aadbc9ed78661b437ab6855"), looks := true }, kinds := [], alts := [], laidByText := true, laidKinds := [.handle, .data, .data, .data], laidTests := true, laidLooks := .later }
def HonestTracesCardSaid : Prop := Claim7.holds Tryz.pinned (.plain (OpenSpec.ofChange honestTracesSpec)) honestTracesCard

/-- THE TIED CARD OF 'mootlaw20.HonestAsks'. -/
def honestAsksCard : Claim7 := { stood := { row := honestAsksRow, standIns := [], harness := (true, "e0d53617309820564ee7f26b314b09e25c40a4e45aadbc9ed78661b437ab6855"), looks := true }, kinds := [], alts := [], laidByText := true, laidKinds := [.data, .data, .data], laidTests := true, laidLooks := .later }
def HonestAsksCardSaid : Prop := Claim7.holds Tryz.pinned (.plain (OpenSpec.ofChange honestAsksSpec)) honestAsksCard

/-- THE SECOND FORM's CARD OF 'mootlaw20.HonestNil'. -/
def honestNilUptoCard : Claim7 := { stood := { row := honestNilUptoRow, standIns := [], harness := (true, "e0d53617309820564ee7f26b314b09e25c40a4e45aadbc9ed78661b437ab6855"), looks := true }, kinds := [], alts := [], laidByText := true, laidKinds := [.data, .data, .data], laidTests := true, laidLooks := .later }
def HonestNilUptoCardSaid : Prop := Claim7.holds Tryz.pinned (.plain (OpenSpec.upto honestNilSpec)) honestNilUptoCard

/-- THE SECOND FORM's CARD OF 'mootlaw20.HonestAbsent'. -/
def honestAbsentUptoCard : Claim7 := { stood := { row := honestAbsentUptoRow, standIns := [], harness := (true, "e0d53617309820564ee7f26b314b09e25c40a4e45aadbc9ed78661b437ab6855"), looks := true }, kinds := [], alts := [], laidByText := true, laidKinds := [.data, .data, .data], laidTests := true, laidLooks := .later }
def HonestAbsentUptoCardSaid : Prop := Claim7.holds Tryz.pinned (.plain (OpenSpec.upto honestAbsentSpec)) honestAbsentUptoCard

/-- THE SECOND FORM's CARD OF 'mootlaw20.HonestTraces'. -/
def honestTracesUptoCard : Claim7 := { stood := { row := honestTracesUptoRow, standIns := [], harness := (true, "e0d53617309820564ee7f26b314b09e25c40a4e45aadbc9ed78661b437ab6855"), looks := true }, kinds := [], alts := [], laidByText := true, laidKinds := [.handle, .data, .data, .data], laidTests := true, laidLooks := .later }
def HonestTracesUptoCardSaid : Prop := Claim7.holds Tryz.pinned (.plain (OpenSpec.upto honestTracesSpec)) honestTracesUptoCard

/-- THE SECOND FORM's CARD OF 'mootlaw20.HonestAsks'. -/
def honestAsksUptoCard : Claim7 := { stood := { row := honestAsksUptoRow, standIns := [], harness := (true, "e0d53617309820564ee7f26b314b09e25c40a4e45aadbc9ed78661b437ab6855"), looks := true }, kinds := [], alts := [], laidByText := true, laidKinds := [.data, .data, .data], laidTests := true, laidLooks := .later }
def HonestAsksUptoCardSaid : Prop := Claim7.holds Tryz.pinned (.plain (OpenSpec.upto honestAsksSpec)) honestAsksUptoCard
end Rows
end Go.Proofs.YtlfkjfonpacelaaGreatDoor
