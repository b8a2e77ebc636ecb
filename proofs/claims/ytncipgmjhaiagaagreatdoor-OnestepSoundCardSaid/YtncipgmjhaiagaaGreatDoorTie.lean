/-
  DERIVED. GIVEN WITH THE SEED: THE PROGRAM's TIES (one call each: nine closed facts by the kernel) AND EACH ROW's TIE, after the 31st guide's Derived/Test/Toyas{Tie, Card}.lean. No idea stands in it: it is a product of the set-up. Laid BY PROGRAM, IN A SANDBOX (cutbox-door.mjs). By AI agents, Wed Nov 11 2026. No macro, syntax, notation, axiom, sorry.
-/
import Derived.Test.YtncipgmjhaiagaaGreatDoorRows
import Derived.LaidByTextLater
import Derived.SevenTiedAt
import Derived.LaidSub
import Derived.LaidOnce
namespace Go.Proofs.YtncipgmjhaiagaaGreatDoor
open Go
set_option maxRecDepth 100000
theorem seatTie1 : Tryz.prog.laidByTextLater [("moot/keccak.rounds", Rows.laid_moot_keccak_rounds), ("moot/keccak.lanes", Rows.laid_moot_keccak_lanes), ("moot/keccak.turns", Rows.laid_moot_keccak_turns)] [.data, .data, .data] true :=
  Program.laidByTextLater_by_one 24 8 25 (by kernel_rfl) (by kernel_rfl) (by kernel_rfl) (by kernel_rfl) (by kernel_rfl) (by kernel_rfl) (fun _ _ => by kernel_rfl)
theorem noOwnUnsafe : Tryz.pinned.checked.prog.headLifts.contains "ownunsafe" = false := by kernel_rfl
theorem tie : Tryz.prog.laidByTextLater [("moot/keccak.rounds", Rows.laid_moot_keccak_rounds), ("moot/keccak.lanes", Rows.laid_moot_keccak_lanes), ("moot/keccak.turns", Rows.laid_moot_keccak_turns)] [.data, .data, .data] true :=
  Program.laidByTextLater.sub seatTie1 ["moot/keccak.rounds", "moot/keccak.lanes", "moot/keccak.turns"] (by kernel_rfl) (by kernel_rfl)
theorem onestepChains_row_tie : Rows.onestepChainsRow.laidByTextAt .later Tryz.pinned [.data, .data, .data] true :=
  OpenClaim.laidByTextAt_later rfl rfl tie noOwnUnsafe
theorem onestepFew_row_tie : Rows.onestepFewRow.laidByTextAt .later Tryz.pinned [.data, .data, .data] true :=
  OpenClaim.laidByTextAt_later rfl rfl tie noOwnUnsafe
theorem onestepSound_row_tie : Rows.onestepSoundRow.laidByTextAt .later Tryz.pinned [.data, .data, .data] true :=
  OpenClaim.laidByTextAt_later rfl rfl tie noOwnUnsafe
theorem onestepShows_row_tie : Rows.onestepShowsRow.laidByTextAt .later Tryz.pinned [.data, .data, .data] true :=
  OpenClaim.laidByTextAt_later rfl rfl tie noOwnUnsafe
theorem onestepChainsUpto_row_tie : Rows.onestepChainsUptoRow.laidByTextAt .later Tryz.pinned [.data, .data, .data] true :=
  OpenClaim.laidByTextAt_later rfl rfl tie noOwnUnsafe
theorem onestepFewUpto_row_tie : Rows.onestepFewUptoRow.laidByTextAt .later Tryz.pinned [.data, .data, .data] true :=
  OpenClaim.laidByTextAt_later rfl rfl tie noOwnUnsafe
theorem onestepSoundUpto_row_tie : Rows.onestepSoundUptoRow.laidByTextAt .later Tryz.pinned [.data, .data, .data] true :=
  OpenClaim.laidByTextAt_later rfl rfl tie noOwnUnsafe
theorem onestepShowsUpto_row_tie : Rows.onestepShowsUptoRow.laidByTextAt .later Tryz.pinned [.data, .data, .data] true :=
  OpenClaim.laidByTextAt_later rfl rfl tie noOwnUnsafe
end Go.Proofs.YtncipgmjhaiagaaGreatDoor
