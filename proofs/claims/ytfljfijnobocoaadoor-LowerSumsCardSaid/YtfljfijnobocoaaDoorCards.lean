/-
  DERIVED. GIVEN WITH THE SEED: THE CARDS: each row of YtfljfijnobocoaaDoorRows.lean that lists a variable, with what it lists TIED to the program's text (the seventh form; the later family's looks); each row that meets fmt, with fmt's text TOLD by the authors' own Lean function (tested against real Go, not proved from fmt's source: count such statements apart). THE CARD IS WHAT COUNTS. Prove the row's statement (the work); the ties are given (YtfljfijnobocoaaDoorTie.lean); close each card by the builder's one call (the guide's Derived/Test/ToyasCard.lean, 'card_holds'). Laid BY PROGRAM, IN A SANDBOX (cutbox-door.mjs). By AI agents, Wed Nov 11 2026. No macro, syntax, notation, axiom, sorry.
-/
import Derived.Test.YtfljfijnobocoaaDoorRows
import GoSem.ClaimSeven
namespace Go.Proofs.YtfljfijnobocoaaDoor
namespace Rows

/-- THE TIED CARD OF 'mootlaw13.LowerSums'. -/
def lowerSumsCard : Claim7 := { stood := { row := lowerSumsRow, standIns := [], harness := (true, "f75ee59037ff99b6d8568934bb4173ffcde3a967773b997c2db99db7f8744da1"), looks := true }, kinds := [], alts := [], laidByText := true, laidKinds := [.data, .data, .data], laidTests := true, laidLooks := .later }
def LowerSumsCardSaid : Prop := Claim7.holds Tryd.pinned (.plain (OpenSpec.ofChange lowerSumsSpec)) lowerSumsCard

/-- THE TIED CARD OF 'mootlaw13.LowerMachines'. -/
def lowerMachinesCard : Claim7 := { stood := { row := lowerMachinesRow, standIns := [], harness := (true, "f75ee59037ff99b6d8568934bb4173ffcde3a967773b997c2db99db7f8744da1"), looks := true }, kinds := [], alts := [], laidByText := true, laidKinds := [.data, .data, .data], laidTests := true, laidLooks := .later }
def LowerMachinesCardSaid : Prop := Claim7.holds Tryd.pinned (.plain (OpenSpec.ofChange lowerMachinesSpec)) lowerMachinesCard

/-- THE SECOND FORM's CARD OF 'mootlaw13.LowerSums'. -/
def lowerSumsUptoCard : Claim7 := { stood := { row := lowerSumsUptoRow, standIns := [], harness := (true, "f75ee59037ff99b6d8568934bb4173ffcde3a967773b997c2db99db7f8744da1"), looks := true }, kinds := [], alts := [], laidByText := true, laidKinds := [.data, .data, .data], laidTests := true, laidLooks := .later }
def LowerSumsUptoCardSaid : Prop := Claim7.holds Tryd.pinned (.plain (OpenSpec.upto lowerSumsSpec)) lowerSumsUptoCard

/-- THE SECOND FORM's CARD OF 'mootlaw13.LowerMachines'. -/
def lowerMachinesUptoCard : Claim7 := { stood := { row := lowerMachinesUptoRow, standIns := [], harness := (true, "f75ee59037ff99b6d8568934bb4173ffcde3a967773b997c2db99db7f8744da1"), looks := true }, kinds := [], alts := [], laidByText := true, laidKinds := [.data, .data, .data], laidTests := true, laidLooks := .later }
def LowerMachinesUptoCardSaid : Prop := Claim7.holds Tryd.pinned (.plain (OpenSpec.upto lowerMachinesSpec)) lowerMachinesUptoCard
end Rows
end Go.Proofs.YtfljfijnobocoaaDoor
