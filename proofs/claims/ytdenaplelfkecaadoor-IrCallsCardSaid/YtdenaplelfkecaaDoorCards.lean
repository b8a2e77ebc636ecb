/-
  DERIVED. GIVEN WITH THE SEED: THE CARDS: each row of YtdenaplelfkecaaDoorRows.lean that lists a variable, with what it lists TIED to the program's text (the seventh form; the later family's looks); each row that meets fmt, with fmt's text TOLD by the authors' own Lean function (tested against real Go, not proved from fmt's source: count such statements apart). THE CARD IS WHAT COUNTS. Prove the row's statement (the work); the ties are given (YtdenaplelfkecaaDoorTie.lean); close each card by the builder's one call (the guide's Derived/Test/ToyasCard.lean, 'card_holds'). Laid BY PROGRAM, IN A SANDBOX (cutbox-door.mjs). By AI agents, Wed Nov 11 2026. No macro, syntax, notation, axiom, sorry.
-/
import Derived.Test.YtdenaplelfkecaaDoorRows
import GoSem.ClaimSeven
namespace Go.Proofs.YtdenaplelfkecaaDoor
namespace Rows

/-- THE TIED CARD OF 'mootlaw12.IrLoops'. -/
def irLoopsCard : Claim7 := { stood := { row := irLoopsRow, standIns := [], harness := (true, "9cdd93295a92e4d9615741ee6a39c0047a6d1e0b238af3b659189b3168fec9ec"), looks := true }, kinds := [], alts := [], laidByText := true, laidKinds := [.data, .data, .data], laidTests := true, laidLooks := .later }
def IrLoopsCardSaid : Prop := Claim7.holds Tryd.pinned (.plain (OpenSpec.ofChange irLoopsSpec)) irLoopsCard

/-- THE TIED CARD OF 'mootlaw12.IrCalls'. -/
def irCallsCard : Claim7 := { stood := { row := irCallsRow, standIns := [], harness := (true, "9cdd93295a92e4d9615741ee6a39c0047a6d1e0b238af3b659189b3168fec9ec"), looks := true }, kinds := [], alts := [], laidByText := true, laidKinds := [.data, .data, .data], laidTests := true, laidLooks := .later }
def IrCallsCardSaid : Prop := Claim7.holds Tryd.pinned (.plain (OpenSpec.ofChange irCallsSpec)) irCallsCard

/-- THE TIED CARD OF 'mootlaw12.IrEnds'. -/
def irEndsCard : Claim7 := { stood := { row := irEndsRow, standIns := [], harness := (true, "9cdd93295a92e4d9615741ee6a39c0047a6d1e0b238af3b659189b3168fec9ec"), looks := true }, kinds := [], alts := [], laidByText := true, laidKinds := [.data, .data, .data], laidTests := true, laidLooks := .later }
def IrEndsCardSaid : Prop := Claim7.holds Tryd.pinned (.plain (OpenSpec.ofChange irEndsSpec)) irEndsCard

/-- THE TIED CARD OF 'mootlaw12.IrTooMuch'. -/
def irTooMuchCard : Claim7 := { stood := { row := irTooMuchRow, standIns := [], harness := (true, "9cdd93295a92e4d9615741ee6a39c0047a6d1e0b238af3b659189b3168fec9ec"), looks := true }, kinds := [], alts := [], laidByText := true, laidKinds := [.data, .data, .data], laidTests := true, laidLooks := .later }
def IrTooMuchCardSaid : Prop := Claim7.holds Tryd.pinned (.plain (OpenSpec.ofChange irTooMuchSpec)) irTooMuchCard

/-- THE TIED CARD OF 'mootlaw15.OnestepNil'. -/
def onestepNilCard : Claim7 := { stood := { row := onestepNilRow, standIns := [], harness := (true, "9cdd93295a92e4d9615741ee6a39c0047a6d1e0b238af3b659189b3168fec9ec"), looks := true }, kinds := [], alts := [], laidByText := true, laidKinds := [.data, .data, .data], laidTests := true, laidLooks := .later }
def OnestepNilCardSaid : Prop := Claim7.holds Tryd.pinned (.plain (OpenSpec.ofChange onestepNilSpec)) onestepNilCard

/-- THE TIED CARD OF 'mootlaw13.LowerSums'. -/
def lowerSumsCard : Claim7 := { stood := { row := lowerSumsRow, standIns := [], harness := (true, "9cdd93295a92e4d9615741ee6a39c0047a6d1e0b238af3b659189b3168fec9ec"), looks := true }, kinds := [], alts := [], laidByText := true, laidKinds := [.data, .data, .data], laidTests := true, laidLooks := .later }
def LowerSumsCardSaid : Prop := Claim7.holds Tryd.pinned (.plain (OpenSpec.ofChange lowerSumsSpec)) lowerSumsCard

/-- THE TIED CARD OF 'mootlaw13.LowerMachines'. -/
def lowerMachinesCard : Claim7 := { stood := { row := lowerMachinesRow, standIns := [], harness := (true, "9cdd93295a92e4d9615741ee6a39c0047a6d1e0b238af3b659189b3168fec9ec"), looks := true }, kinds := [], alts := [], laidByText := true, laidKinds := [.data, .data, .data], laidTests := true, laidLooks := .later }
def LowerMachinesCardSaid : Prop := Claim7.holds Tryd.pinned (.plain (OpenSpec.ofChange lowerMachinesSpec)) lowerMachinesCard

/-- THE SECOND FORM's CARD OF 'mootlaw12.IrLoops'. -/
def irLoopsUptoCard : Claim7 := { stood := { row := irLoopsUptoRow, standIns := [], harness := (true, "9cdd93295a92e4d9615741ee6a39c0047a6d1e0b238af3b659189b3168fec9ec"), looks := true }, kinds := [], alts := [], laidByText := true, laidKinds := [.data, .data, .data], laidTests := true, laidLooks := .later }
def IrLoopsUptoCardSaid : Prop := Claim7.holds Tryd.pinned (.plain (OpenSpec.upto irLoopsSpec)) irLoopsUptoCard

/-- THE SECOND FORM's CARD OF 'mootlaw12.IrCalls'. -/
def irCallsUptoCard : Claim7 := { stood := { row := irCallsUptoRow, standIns := [], harness := (true, "9cdd93295a92e4d9615741ee6a39c0047a6d1e0b238af3b659189b3168fec9ec"), looks := true }, kinds := [], alts := [], laidByText := true, laidKinds := [.data, .data, .data], laidTests := true, laidLooks := .later }
def IrCallsUptoCardSaid : Prop := Claim7.holds Tryd.pinned (.plain (OpenSpec.upto irCallsSpec)) irCallsUptoCard

/-- THE SECOND FORM's CARD OF 'mootlaw12.IrEnds'. -/
def irEndsUptoCard : Claim7 := { stood := { row := irEndsUptoRow, standIns := [], harness := (true, "9cdd93295a92e4d9615741ee6a39c0047a6d1e0b238af3b659189b3168fec9ec"), looks := true }, kinds := [], alts := [], laidByText := true, laidKinds := [.data, .data, .data], laidTests := true, laidLooks := .later }
def IrEndsUptoCardSaid : Prop := Claim7.holds Tryd.pinned (.plain (OpenSpec.upto irEndsSpec)) irEndsUptoCard

/-- THE SECOND FORM's CARD OF 'mootlaw12.IrTooMuch'. -/
def irTooMuchUptoCard : Claim7 := { stood := { row := irTooMuchUptoRow, standIns := [], harness := (true, "9cdd93295a92e4d9615741ee6a39c0047a6d1e0b238af3b659189b3168fec9ec"), looks := true }, kinds := [], alts := [], laidByText := true, laidKinds := [.data, .data, .data], laidTests := true, laidLooks := .later }
def IrTooMuchUptoCardSaid : Prop := Claim7.holds Tryd.pinned (.plain (OpenSpec.upto irTooMuchSpec)) irTooMuchUptoCard

/-- THE SECOND FORM's CARD OF 'mootlaw15.OnestepNil'. -/
def onestepNilUptoCard : Claim7 := { stood := { row := onestepNilUptoRow, standIns := [], harness := (true, "9cdd93295a92e4d9615741ee6a39c0047a6d1e0b238af3b659189b3168fec9ec"), looks := true }, kinds := [], alts := [], laidByText := true, laidKinds := [.data, .data, .data], laidTests := true, laidLooks := .later }
def OnestepNilUptoCardSaid : Prop := Claim7.holds Tryd.pinned (.plain (OpenSpec.upto onestepNilSpec)) onestepNilUptoCard

/-- THE SECOND FORM's CARD OF 'mootlaw13.LowerSums'. -/
def lowerSumsUptoCard : Claim7 := { stood := { row := lowerSumsUptoRow, standIns := [], harness := (true, "9cdd93295a92e4d9615741ee6a39c0047a6d1e0b238af3b659189b3168fec9ec"), looks := true }, kinds := [], alts := [], laidByText := true, laidKinds := [.data, .data, .data], laidTests := true, laidLooks := .later }
def LowerSumsUptoCardSaid : Prop := Claim7.holds Tryd.pinned (.plain (OpenSpec.upto lowerSumsSpec)) lowerSumsUptoCard

/-- THE SECOND FORM's CARD OF 'mootlaw13.LowerMachines'. -/
def lowerMachinesUptoCard : Claim7 := { stood := { row := lowerMachinesUptoRow, standIns := [], harness := (true, "9cdd93295a92e4d9615741ee6a39c0047a6d1e0b238af3b659189b3168fec9ec"), looks := true }, kinds := [], alts := [], laidByText := true, laidKinds := [.data, .data, .data], laidTests := true, laidLooks := .later }
def LowerMachinesUptoCardSaid : Prop := Claim7.holds Tryd.pinned (.plain (OpenSpec.upto lowerMachinesSpec)) lowerMachinesUptoCard
end Rows
end Go.Proofs.YtdenaplelfkecaaDoor
