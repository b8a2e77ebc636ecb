/-
  DERIVED. GIVEN WITH THE SEED: THE PROGRAM's TIES (one call each: nine closed facts by the kernel) AND EACH ROW's TIE, after the 31st guide's Derived/Test/Toyas{Tie, Card}.lean. No idea stands in it: it is a product of the set-up. Laid BY PROGRAM, IN A SANDBOX (cutbox-door.mjs). By AI agents, Wed Nov 11 2026. No macro, syntax, notation, axiom, sorry.
-/
import Derived.Test.YtpcgkiecjakknaaGreatDoorRows
import Derived.LaidByTextLater
import Derived.SevenTiedAt
import Derived.LaidSub
import Derived.LaidOnce
namespace Go.Proofs.YtpcgkiecjakknaaGreatDoor
open Go
set_option maxRecDepth 100000
theorem seatTie1 : Tryz.prog.laidByTextLater [("errors.errorType", Rows.laid_errors_errorType), ("moot/keccak.rounds", Rows.laid_moot_keccak_rounds), ("moot/keccak.lanes", Rows.laid_moot_keccak_lanes), ("moot/keccak.turns", Rows.laid_moot_keccak_turns)] [.handle, .data, .data, .data] true :=
  Program.laidByTextLater_by_one 31 8 25 (by kernel_rfl) (by kernel_rfl) (by kernel_rfl) (by kernel_rfl) (by kernel_rfl) (by kernel_rfl) (fun _ _ => by kernel_rfl)
theorem noOwnUnsafe : Tryz.pinned.checked.prog.headLifts.contains "ownunsafe" = false := by kernel_rfl
theorem tie : Tryz.prog.laidByTextLater [("errors.errorType", Rows.laid_errors_errorType), ("moot/keccak.rounds", Rows.laid_moot_keccak_rounds), ("moot/keccak.lanes", Rows.laid_moot_keccak_lanes), ("moot/keccak.turns", Rows.laid_moot_keccak_turns)] [.handle, .data, .data, .data] true :=
  Program.laidByTextLater.sub seatTie1 ["errors.errorType", "moot/keccak.rounds", "moot/keccak.lanes", "moot/keccak.turns"] (by kernel_rfl) (by kernel_rfl)
theorem gameNil_row_tie : Rows.gameNilRow.laidByTextAt .later Tryz.pinned [.handle, .data, .data, .data] true :=
  OpenClaim.laidByTextAt_later rfl rfl tie noOwnUnsafe
theorem gameHolds_row_tie : Rows.gameHoldsRow.laidByTextAt .later Tryz.pinned [.handle, .data, .data, .data] true :=
  OpenClaim.laidByTextAt_later rfl rfl tie noOwnUnsafe
theorem gameTree_row_tie : Rows.gameTreeRow.laidByTextAt .later Tryz.pinned [.handle, .data, .data, .data] true :=
  OpenClaim.laidByTextAt_later rfl rfl tie noOwnUnsafe
theorem gameBonds_row_tie : Rows.gameBondsRow.laidByTextAt .later Tryz.pinned [.handle, .data, .data, .data] true :=
  OpenClaim.laidByTextAt_later rfl rfl tie noOwnUnsafe
theorem gameClocks_row_tie : Rows.gameClocksRow.laidByTextAt .later Tryz.pinned [.handle, .data, .data, .data] true :=
  OpenClaim.laidByTextAt_later rfl rfl tie noOwnUnsafe
theorem gameEnds_row_tie : Rows.gameEndsRow.laidByTextAt .later Tryz.pinned [.handle, .data, .data, .data] true :=
  OpenClaim.laidByTextAt_later rfl rfl tie noOwnUnsafe
theorem gamePlays_row_tie : Rows.gamePlaysRow.laidByTextAt .later Tryz.pinned [.handle, .data, .data, .data] true :=
  OpenClaim.laidByTextAt_later rfl rfl tie noOwnUnsafe
theorem gameNilUpto_row_tie : Rows.gameNilUptoRow.laidByTextAt .later Tryz.pinned [.handle, .data, .data, .data] true :=
  OpenClaim.laidByTextAt_later rfl rfl tie noOwnUnsafe
theorem gameHoldsUpto_row_tie : Rows.gameHoldsUptoRow.laidByTextAt .later Tryz.pinned [.handle, .data, .data, .data] true :=
  OpenClaim.laidByTextAt_later rfl rfl tie noOwnUnsafe
theorem gameTreeUpto_row_tie : Rows.gameTreeUptoRow.laidByTextAt .later Tryz.pinned [.handle, .data, .data, .data] true :=
  OpenClaim.laidByTextAt_later rfl rfl tie noOwnUnsafe
theorem gameBondsUpto_row_tie : Rows.gameBondsUptoRow.laidByTextAt .later Tryz.pinned [.handle, .data, .data, .data] true :=
  OpenClaim.laidByTextAt_later rfl rfl tie noOwnUnsafe
theorem gameClocksUpto_row_tie : Rows.gameClocksUptoRow.laidByTextAt .later Tryz.pinned [.handle, .data, .data, .data] true :=
  OpenClaim.laidByTextAt_later rfl rfl tie noOwnUnsafe
theorem gameEndsUpto_row_tie : Rows.gameEndsUptoRow.laidByTextAt .later Tryz.pinned [.handle, .data, .data, .data] true :=
  OpenClaim.laidByTextAt_later rfl rfl tie noOwnUnsafe
theorem gamePlaysUpto_row_tie : Rows.gamePlaysUptoRow.laidByTextAt .later Tryz.pinned [.handle, .data, .data, .data] true :=
  OpenClaim.laidByTextAt_later rfl rfl tie noOwnUnsafe
end Go.Proofs.YtpcgkiecjakknaaGreatDoor
