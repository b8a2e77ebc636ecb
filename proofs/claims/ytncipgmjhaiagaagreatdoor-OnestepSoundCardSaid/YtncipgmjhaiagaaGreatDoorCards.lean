/-
  DERIVED. GIVEN WITH THE SEED: THE CARDS: each row of YtncipgmjhaiagaaGreatDoorRows.lean that lists a variable, with what it lists TIED to the program's text (the seventh form; the later family's looks); each row that meets fmt, with fmt's text TOLD by the authors' own Lean function (tested against real Go, not proved from fmt's source: count such statements apart). THE CARD IS WHAT COUNTS. Prove the row's statement (the work); the ties are given (YtncipgmjhaiagaaGreatDoorTie.lean); close each card by the builder's one call (the guide's Derived/Test/ToyasCard.lean, 'card_holds'). Laid BY PROGRAM, IN A SANDBOX (cutbox-door.mjs). By AI agents, Wed Nov 11 2026. No macro, syntax, notation, axiom, sorry.
-/
import Derived.Test.YtncipgmjhaiagaaGreatDoorRows
import GoSem.ClaimSeven
namespace Go.Proofs.YtncipgmjhaiagaaGreatDoor
namespace Rows

/-- THE TIED CARD OF 'mootlaw15.OnestepChains'. -/
def onestepChainsCard : Claim7 := { stood := { row := onestepChainsRow, standIns := [], harness := (true, "cab958c1b83c351f248faec9f85c83fcd21987142abf273a38f58bef9ff782e7"), looks := true }, kinds := [], alts := [], laidByText := true, laidKinds := [.data, .data, .data], laidTests := true, laidLooks := .later }
def OnestepChainsCardSaid : Prop := Claim7.holds Tryz.pinned (.plain (OpenSpec.ofChange onestepChainsSpec)) onestepChainsCard

/-- THE TIED CARD OF 'mootlaw15.OnestepFew'. -/
def onestepFewCard : Claim7 := { stood := { row := onestepFewRow, standIns := [], harness := (true, "cab958c1b83c351f248faec9f85c83fcd21987142abf273a38f58bef9ff782e7"), looks := true }, kinds := [], alts := [], laidByText := true, laidKinds := [.data, .data, .data], laidTests := true, laidLooks := .later }
def OnestepFewCardSaid : Prop := Claim7.holds Tryz.pinned (.plain (OpenSpec.ofChange onestepFewSpec)) onestepFewCard

/-- THE TIED CARD OF 'mootlaw15.OnestepSound'. -/
def onestepSoundCard : Claim7 := { stood := { row := onestepSoundRow, standIns := [], harness := (true, "cab958c1b83c351f248faec9f85c83fcd21987142abf273a38f58bef9ff782e7"), looks := true }, kinds := [], alts := [], laidByText := true, laidKinds := [.data, .data, .data], laidTests := true, laidLooks := .later }
def OnestepSoundCardSaid : Prop := Claim7.holds Tryz.pinned (.plain (OpenSpec.ofChange onestepSoundSpec)) onestepSoundCard

/-- THE TIED CARD OF 'mootlaw15.OnestepShows'. -/
def onestepShowsCard : Claim7 := { stood := { row := onestepShowsRow, standIns := [], harness := (true, "cab958c1b83c351f248faec9f85c83fcd21987142abf273a38f58bef9ff782e7"), looks := true }, kinds := [], alts := [], laidByText := true, laidKinds := [.data, .data, .data], laidTests := true, laidLooks := .later }
def OnestepShowsCardSaid : Prop := Claim7.holds Tryz.pinned (.plain (OpenSpec.ofChange onestepShowsSpec)) onestepShowsCard

/-- THE SECOND FORM's CARD OF 'mootlaw15.OnestepChains'. -/
def onestepChainsUptoCard : Claim7 := { stood := { row := onestepChainsUptoRow, standIns := [], harness := (true, "cab958c1b83c351f248faec9f85c83fcd21987142abf273a38f58bef9ff782e7"), looks := true }, kinds := [], alts := [], laidByText := true, laidKinds := [.data, .data, .data], laidTests := true, laidLooks := .later }
def OnestepChainsUptoCardSaid : Prop := Claim7.holds Tryz.pinned (.plain (OpenSpec.upto onestepChainsSpec)) onestepChainsUptoCard

/-- THE SECOND FORM's CARD OF 'mootlaw15.OnestepFew'. -/
def onestepFewUptoCard : Claim7 := { stood := { row := onestepFewUptoRow, standIns := [], harness := (true, "cab958c1b83c351f248faec9f85c83fcd21987142abf273a38f58bef9ff782e7"), looks := true }, kinds := [], alts := [], laidByText := true, laidKinds := [.data, .data, .data], laidTests := true, laidLooks := .later }
def OnestepFewUptoCardSaid : Prop := Claim7.holds Tryz.pinned (.plain (OpenSpec.upto onestepFewSpec)) onestepFewUptoCard

/-- THE SECOND FORM's CARD OF 'mootlaw15.OnestepSound'. -/
def onestepSoundUptoCard : Claim7 := { stood := { row := onestepSoundUptoRow, standIns := [], harness := (true, "cab958c1b83c351f248faec9f85c83fcd21987142abf273a38f58bef9ff782e7"), looks := true }, kinds := [], alts := [], laidByText := true, laidKinds := [.data, .data, .data], laidTests := true, laidLooks := .later }
def OnestepSoundUptoCardSaid : Prop := Claim7.holds Tryz.pinned (.plain (OpenSpec.upto onestepSoundSpec)) onestepSoundUptoCard

/-- THE SECOND FORM's CARD OF 'mootlaw15.OnestepShows'. -/
def onestepShowsUptoCard : Claim7 := { stood := { row := onestepShowsUptoRow, standIns := [], harness := (true, "cab958c1b83c351f248faec9f85c83fcd21987142abf273a38f58bef9ff782e7"), looks := true }, kinds := [], alts := [], laidByText := true, laidKinds := [.data, .data, .data], laidTests := true, laidLooks := .later }
def OnestepShowsUptoCardSaid : Prop := Claim7.holds Tryz.pinned (.plain (OpenSpec.upto onestepShowsSpec)) onestepShowsUptoCard
end Rows
end Go.Proofs.YtncipgmjhaiagaaGreatDoor
