/-
  NARROWER THAN 'FOR EVERY INPUT', by the rows' own cells (each row's printed sentence says how): GameNil: laid · GameHolds: laid · GameTree: laid · GameBonds: laid · GameClocks: laid · GameEnds: laid · GamePlays: laid.
  DERIVED. THE GIVEN ROWS OF THIS SEAT. 7 by the template 'for every input the law returns true; each argument reads behind the call as it read before'; 0 by the template 'total and deterministic' (their statements: YtpcgkiecjakknaaGreatDoorTotals.lean).
  GIVEN WITH THE SEED: the statements are not yours to turn. If you find one false, say at which input.
  Laid BY PROGRAM, IN A SANDBOX (cutbox-rows.mjs): the forced cells as the released guide's own fill.sh prints them over the translation 2e72a2bddf84df00… (all of the seat's roots in one cut). By AI agents, Wed Nov 11 2026. No macro, syntax, notation, axiom, sorry.
-/
import Derived.Test.YtpcgkiecjakknaaGreatDoorChecked
import GoSem.Claim
import GoSem.ClaimJoined
import GoSem.ClaimMapViews
import Derived.JoinedTies
import Derived.KernelRfl
namespace Go.Proofs.YtpcgkiecjakknaaGreatDoor
/- THE CELL 'sum', in the pinned program and in every row, IS THE sha256 OF THE DUMP (.gsa) THAT YtpcgkiecjakknaaGreatDoorProg.lean LOADS. Nothing in Lean hashes anything: it is a label: what it is worth is what the hold of that sum in a sandbox is worth. -/
noncomputable def Tryz.pinned : Pinned := { name := "ytpcgkiecjakknaagreatdoor", sum := "2e72a2bddf84df00756878444f943c8e904a320c9862cec4eb065bf9bafb0667", checked := Tryz.checked }
namespace Rows
def none {H : Type} : Left H := { results := [], args := [] }

/- WHAT THE LISTED PACKAGE-LEVEL VARIABLES READ AS WHEN THE CALL BEGINS. Each datum BY PROGRAM (the guide's laid-datum.mjs) off the statement by which the dump's own 'gosem.cut.vars' lays the variable. In a bare row this is a premise. The card (YtpcgkiecjakknaaGreatDoorCards.lean) ties it to the program's text. -/
def laid_errors_errorType {H : Type} : DataW H := .iface "internal/reflectlite.rtype" (.agg [.ptr (.lit (.string [101, 114, 114, 111, 114]))])
def laid_moot_keccak_rounds {H : Type} : DataW H := .agg [.lit (.int .u64 1), .lit (.int .u64 32898), .lit (.int .u64 9223372036854808714), .lit (.int .u64 9223372039002292224), .lit (.int .u64 32907), .lit (.int .u64 2147483649), .lit (.int .u64 9223372039002292353), .lit (.int .u64 9223372036854808585), .lit (.int .u64 138), .lit (.int .u64 136), .lit (.int .u64 2147516425), .lit (.int .u64 2147483658), .lit (.int .u64 2147516555), .lit (.int .u64 9223372036854775947), .lit (.int .u64 9223372036854808713), .lit (.int .u64 9223372036854808579), .lit (.int .u64 9223372036854808578), .lit (.int .u64 9223372036854775936), .lit (.int .u64 32778), .lit (.int .u64 9223372039002259466), .lit (.int .u64 9223372039002292353), .lit (.int .u64 9223372036854808704), .lit (.int .u64 2147483649), .lit (.int .u64 9223372039002292232)]
def laid_moot_keccak_lanes {H : Type} : DataW H := .agg [.lit (.int .i64 10), .lit (.int .i64 7), .lit (.int .i64 11), .lit (.int .i64 17), .lit (.int .i64 18), .lit (.int .i64 3), .lit (.int .i64 5), .lit (.int .i64 16), .lit (.int .i64 8), .lit (.int .i64 21), .lit (.int .i64 24), .lit (.int .i64 4), .lit (.int .i64 15), .lit (.int .i64 23), .lit (.int .i64 19), .lit (.int .i64 13), .lit (.int .i64 12), .lit (.int .i64 2), .lit (.int .i64 20), .lit (.int .i64 14), .lit (.int .i64 22), .lit (.int .i64 9), .lit (.int .i64 6), .lit (.int .i64 1)]
def laid_moot_keccak_turns {H : Type} : DataW H := .agg [.lit (.int .i64 1), .lit (.int .i64 3), .lit (.int .i64 6), .lit (.int .i64 10), .lit (.int .i64 15), .lit (.int .i64 21), .lit (.int .i64 28), .lit (.int .i64 36), .lit (.int .i64 45), .lit (.int .i64 55), .lit (.int .i64 2), .lit (.int .i64 14), .lit (.int .i64 27), .lit (.int .i64 41), .lit (.int .i64 56), .lit (.int .i64 8), .lit (.int .i64 25), .lit (.int .i64 43), .lit (.int .i64 62), .lit (.int .i64 18), .lit (.int .i64 39), .lit (.int .i64 61), .lit (.int .i64 20), .lit (.int .i64 44)]

/-- 'mootlaw19.GameNil': WHATEVER THE INPUT: true; the input reads as it did. -/
def gameNilSpec : ChangeSpec := { name := "gameNil", fn := fun _ => fun
  | [d1, d2, d3] => { results := [.lit (.bool true)], args := [d1, d2, d3] }
  | _ => none }
def gameNilRow : OpenClaim := { program := "ytpcgkiecjakknaagreatdoor", sum := "2e72a2bddf84df00756878444f943c8e904a320c9862cec4eb065bf9bafb0667", func := "moot/mootlaw19.GameNil", spec := "gameNil", inPlace := ["math/bits.Add64", "internal/reflectlite.TypeOf", "internal/reflectlite.ValueOf", "(internal/reflectlite.Value).Type", "(internal/reflectlite.Value).IsNil", "(internal/reflectlite.Value).Elem", "(internal/reflectlite.Value).Set"], unfollowed := true, recurses := true, named := ["moot/keccak.rounds", "moot/keccak.lanes", "moot/keccak.turns", "math/bits.divideError", "math/bits.overflowError", "errors.errorType"], plainKeys := false, apart := false, laid := [("errors.errorType", laid_errors_errorType), ("moot/keccak.rounds", laid_moot_keccak_rounds), ("moot/keccak.lanes", laid_moot_keccak_lanes), ("moot/keccak.turns", laid_moot_keccak_turns)] }
def GameNilSaid : Prop := gameNilRow.holds Tryz.pinned (OpenSpec.ofChange gameNilSpec)

/-- ITS FALSE NEIGHBOUR: 'it returns false'. Refute it at one input. -/
def gameNilWrong : ChangeSpec := { name := "gameNil", fn := fun _ => fun
  | [d1, d2, d3] => { results := [.lit (.bool false)], args := [d1, d2, d3] }
  | _ => none }
def GameNilWrongFalsely : Prop := gameNilRow.holds Tryz.pinned (OpenSpec.ofChange gameNilWrong)

/-- 'mootlaw19.GameHolds': WHATEVER THE INPUT: true; the input reads as it did. -/
def gameHoldsSpec : ChangeSpec := { name := "gameHolds", fn := fun _ => fun
  | [d1, d2, d3] => { results := [.lit (.bool true)], args := [d1, d2, d3] }
  | _ => none }
def gameHoldsRow : OpenClaim := { program := "ytpcgkiecjakknaagreatdoor", sum := "2e72a2bddf84df00756878444f943c8e904a320c9862cec4eb065bf9bafb0667", func := "moot/mootlaw19.GameHolds", spec := "gameHolds", inPlace := ["math/bits.Add64", "internal/reflectlite.ValueOf", "(internal/reflectlite.Value).Type", "(internal/reflectlite.Value).IsNil", "internal/reflectlite.TypeOf", "(internal/reflectlite.Value).Elem", "(internal/reflectlite.Value).Set"], unfollowed := true, recurses := true, named := ["moot/keccak.rounds", "moot/keccak.lanes", "moot/keccak.turns", "math/bits.divideError", "math/bits.overflowError", "errors.errorType"], plainKeys := false, apart := false, laid := [("errors.errorType", laid_errors_errorType), ("moot/keccak.rounds", laid_moot_keccak_rounds), ("moot/keccak.lanes", laid_moot_keccak_lanes), ("moot/keccak.turns", laid_moot_keccak_turns)] }
def GameHoldsSaid : Prop := gameHoldsRow.holds Tryz.pinned (OpenSpec.ofChange gameHoldsSpec)

/-- ITS FALSE NEIGHBOUR: 'it returns false'. Refute it at one input. -/
def gameHoldsWrong : ChangeSpec := { name := "gameHolds", fn := fun _ => fun
  | [d1, d2, d3] => { results := [.lit (.bool false)], args := [d1, d2, d3] }
  | _ => none }
def GameHoldsWrongFalsely : Prop := gameHoldsRow.holds Tryz.pinned (OpenSpec.ofChange gameHoldsWrong)

/-- 'mootlaw19.GameTree': WHATEVER THE INPUT: true; the input reads as it did. -/
def gameTreeSpec : ChangeSpec := { name := "gameTree", fn := fun _ => fun
  | [d1, d2] => { results := [.lit (.bool true)], args := [d1, d2] }
  | _ => none }
def gameTreeRow : OpenClaim := { program := "ytpcgkiecjakknaagreatdoor", sum := "2e72a2bddf84df00756878444f943c8e904a320c9862cec4eb065bf9bafb0667", func := "moot/mootlaw19.GameTree", spec := "gameTree", inPlace := ["math/bits.Add64", "internal/reflectlite.ValueOf", "(internal/reflectlite.Value).Type", "(internal/reflectlite.Value).IsNil", "internal/reflectlite.TypeOf", "(internal/reflectlite.Value).Elem", "(internal/reflectlite.Value).Set"], unfollowed := true, recurses := true, named := ["moot/keccak.rounds", "moot/keccak.lanes", "moot/keccak.turns", "math/bits.divideError", "math/bits.overflowError", "errors.errorType"], plainKeys := false, apart := false, laid := [("errors.errorType", laid_errors_errorType), ("moot/keccak.rounds", laid_moot_keccak_rounds), ("moot/keccak.lanes", laid_moot_keccak_lanes), ("moot/keccak.turns", laid_moot_keccak_turns)] }
def GameTreeSaid : Prop := gameTreeRow.holds Tryz.pinned (OpenSpec.ofChange gameTreeSpec)

/-- ITS FALSE NEIGHBOUR: 'it returns false'. Refute it at one input. -/
def gameTreeWrong : ChangeSpec := { name := "gameTree", fn := fun _ => fun
  | [d1, d2] => { results := [.lit (.bool false)], args := [d1, d2] }
  | _ => none }
def GameTreeWrongFalsely : Prop := gameTreeRow.holds Tryz.pinned (OpenSpec.ofChange gameTreeWrong)

/-- 'mootlaw19.GameBonds': WHATEVER THE INPUT: true; the input reads as it did. -/
def gameBondsSpec : ChangeSpec := { name := "gameBonds", fn := fun _ => fun
  | [d1, d2] => { results := [.lit (.bool true)], args := [d1, d2] }
  | _ => none }
def gameBondsRow : OpenClaim := { program := "ytpcgkiecjakknaagreatdoor", sum := "2e72a2bddf84df00756878444f943c8e904a320c9862cec4eb065bf9bafb0667", func := "moot/mootlaw19.GameBonds", spec := "gameBonds", inPlace := ["math/bits.Add64", "internal/reflectlite.ValueOf", "(internal/reflectlite.Value).Type", "(internal/reflectlite.Value).IsNil", "internal/reflectlite.TypeOf", "(internal/reflectlite.Value).Elem", "(internal/reflectlite.Value).Set"], unfollowed := true, recurses := true, named := ["moot/keccak.rounds", "moot/keccak.lanes", "moot/keccak.turns", "math/bits.divideError", "math/bits.overflowError", "errors.errorType"], plainKeys := false, apart := false, laid := [("errors.errorType", laid_errors_errorType), ("moot/keccak.rounds", laid_moot_keccak_rounds), ("moot/keccak.lanes", laid_moot_keccak_lanes), ("moot/keccak.turns", laid_moot_keccak_turns)] }
def GameBondsSaid : Prop := gameBondsRow.holds Tryz.pinned (OpenSpec.ofChange gameBondsSpec)

/-- ITS FALSE NEIGHBOUR: 'it returns false'. Refute it at one input. -/
def gameBondsWrong : ChangeSpec := { name := "gameBonds", fn := fun _ => fun
  | [d1, d2] => { results := [.lit (.bool false)], args := [d1, d2] }
  | _ => none }
def GameBondsWrongFalsely : Prop := gameBondsRow.holds Tryz.pinned (OpenSpec.ofChange gameBondsWrong)

/-- 'mootlaw19.GameClocks': WHATEVER THE INPUT: true; the input reads as it did. -/
def gameClocksSpec : ChangeSpec := { name := "gameClocks", fn := fun _ => fun
  | [d1, d2] => { results := [.lit (.bool true)], args := [d1, d2] }
  | _ => none }
def gameClocksRow : OpenClaim := { program := "ytpcgkiecjakknaagreatdoor", sum := "2e72a2bddf84df00756878444f943c8e904a320c9862cec4eb065bf9bafb0667", func := "moot/mootlaw19.GameClocks", spec := "gameClocks", inPlace := ["math/bits.Add64", "internal/reflectlite.ValueOf", "(internal/reflectlite.Value).Type", "(internal/reflectlite.Value).IsNil", "internal/reflectlite.TypeOf", "(internal/reflectlite.Value).Elem", "(internal/reflectlite.Value).Set"], unfollowed := true, recurses := true, named := ["moot/keccak.rounds", "moot/keccak.lanes", "moot/keccak.turns", "math/bits.divideError", "math/bits.overflowError", "errors.errorType"], plainKeys := false, apart := false, laid := [("errors.errorType", laid_errors_errorType), ("moot/keccak.rounds", laid_moot_keccak_rounds), ("moot/keccak.lanes", laid_moot_keccak_lanes), ("moot/keccak.turns", laid_moot_keccak_turns)] }
def GameClocksSaid : Prop := gameClocksRow.holds Tryz.pinned (OpenSpec.ofChange gameClocksSpec)

/-- ITS FALSE NEIGHBOUR: 'it returns false'. Refute it at one input. -/
def gameClocksWrong : ChangeSpec := { name := "gameClocks", fn := fun _ => fun
  | [d1, d2] => { results := [.lit (.bool false)], args := [d1, d2] }
  | _ => none }
def GameClocksWrongFalsely : Prop := gameClocksRow.holds Tryz.pinned (OpenSpec.ofChange gameClocksWrong)

/-- 'mootlaw19.GameEnds': WHATEVER THE INPUT: true; the input reads as it did. -/
def gameEndsSpec : ChangeSpec := { name := "gameEnds", fn := fun _ => fun
  | [d1, d2] => { results := [.lit (.bool true)], args := [d1, d2] }
  | _ => none }
def gameEndsRow : OpenClaim := { program := "ytpcgkiecjakknaagreatdoor", sum := "2e72a2bddf84df00756878444f943c8e904a320c9862cec4eb065bf9bafb0667", func := "moot/mootlaw19.GameEnds", spec := "gameEnds", inPlace := ["math/bits.Add64", "internal/reflectlite.ValueOf", "(internal/reflectlite.Value).Type", "(internal/reflectlite.Value).IsNil", "internal/reflectlite.TypeOf", "(internal/reflectlite.Value).Elem", "(internal/reflectlite.Value).Set"], unfollowed := true, recurses := true, named := ["moot/keccak.rounds", "moot/keccak.lanes", "moot/keccak.turns", "math/bits.divideError", "math/bits.overflowError", "errors.errorType"], plainKeys := false, apart := false, laid := [("errors.errorType", laid_errors_errorType), ("moot/keccak.rounds", laid_moot_keccak_rounds), ("moot/keccak.lanes", laid_moot_keccak_lanes), ("moot/keccak.turns", laid_moot_keccak_turns)] }
def GameEndsSaid : Prop := gameEndsRow.holds Tryz.pinned (OpenSpec.ofChange gameEndsSpec)

/-- ITS FALSE NEIGHBOUR: 'it returns false'. Refute it at one input. -/
def gameEndsWrong : ChangeSpec := { name := "gameEnds", fn := fun _ => fun
  | [d1, d2] => { results := [.lit (.bool false)], args := [d1, d2] }
  | _ => none }
def GameEndsWrongFalsely : Prop := gameEndsRow.holds Tryz.pinned (OpenSpec.ofChange gameEndsWrong)

/-- 'mootlaw19.GamePlays': WHATEVER THE INPUT: true; the input reads as it did. -/
def gamePlaysSpec : ChangeSpec := { name := "gamePlays", fn := fun _ => fun
  | [d1, d2] => { results := [.lit (.bool true)], args := [d1, d2] }
  | _ => none }
def gamePlaysRow : OpenClaim := { program := "ytpcgkiecjakknaagreatdoor", sum := "2e72a2bddf84df00756878444f943c8e904a320c9862cec4eb065bf9bafb0667", func := "moot/mootlaw19.GamePlays", spec := "gamePlays", inPlace := ["internal/reflectlite.ValueOf", "(internal/reflectlite.Value).Type", "(internal/reflectlite.Value).IsNil", "internal/reflectlite.TypeOf", "(internal/reflectlite.Value).Elem", "(internal/reflectlite.Value).Set", "math/bits.Add64"], unfollowed := true, recurses := true, named := ["errors.errorType", "moot/keccak.rounds", "moot/keccak.lanes", "moot/keccak.turns", "math/bits.divideError", "math/bits.overflowError"], plainKeys := false, apart := false, laid := [("errors.errorType", laid_errors_errorType), ("moot/keccak.rounds", laid_moot_keccak_rounds), ("moot/keccak.lanes", laid_moot_keccak_lanes), ("moot/keccak.turns", laid_moot_keccak_turns)] }
def GamePlaysSaid : Prop := gamePlaysRow.holds Tryz.pinned (OpenSpec.ofChange gamePlaysSpec)

/-- ITS FALSE NEIGHBOUR: 'it returns false'. Refute it at one input. -/
def gamePlaysWrong : ChangeSpec := { name := "gamePlays", fn := fun _ => fun
  | [d1, d2] => { results := [.lit (.bool false)], args := [d1, d2] }
  | _ => none }
def GamePlaysWrongFalsely : Prop := gamePlaysRow.holds Tryz.pinned (OpenSpec.ofChange gamePlaysWrong)

/- THE SECOND FORM. 'bulk': how many values and letters a reading holds, each counted each time it is reached (what is shared counts as often as it is met; a slice's spare places count too). A statement '..UptoSaid' is the law's where the arguments, and the package variables that the reading takes, are together of bulk at most 1048576: NARROWER than '..Said'. Prove '..Said' where nothing that the law and all that it calls make is longer than what came in: it says more and counts as full. Else prove '..UptoSaid'. A law counts once. -/
mutual
def uptoBulk {H : Type} : DataW H → Nat
  | .lit (.string bytes) => bytes.length + 1
  | .lit _ => 1
  | .nil => 1
  | .ptr d => uptoBulk d + 1
  | .slice elems spare => uptoBulkAll elems + uptoBulkAll spare + 1
  | .agg parts => uptoBulkAll parts + 1
  | .iface _ d => uptoBulk d + 1
  | .map entries => uptoBulkEntries entries + 1
  | .held _ => 1
def uptoBulkAll {H : Type} : List (DataW H) → Nat
  | [] => 0
  | d :: r => uptoBulk d + uptoBulkAll r
def uptoBulkEntries {H : Type} : List (Lit × DataW H) → Nat
  | [] => 0
  | x :: r => uptoBulkEntry x + uptoBulkEntries r
def uptoBulkEntry {H : Type} : Lit × DataW H → Nat
  | (.string bytes, d) => bytes.length + uptoBulk d + 1
  | (_, d) => uptoBulk d + 1
 end
def uptoSmall : (H : Type) → List (DataW H) → Bool := fun _ ds => decide (uptoBulkAll ds ≤ 1048576)
def OpenSpec.upto (s : _root_.Go.ChangeSpec) : _root_.Go.OpenSpec := { _root_.Go.OpenSpec.ofChange s with cond := some uptoSmall }

/-- 'mootlaw19.GameNil', WHERE WHAT IT READS IS OF BULK AT MOST 1048576: true; the input reads as it did. -/
def gameNilUptoRow : OpenClaim := { program := "ytpcgkiecjakknaagreatdoor", sum := "2e72a2bddf84df00756878444f943c8e904a320c9862cec4eb065bf9bafb0667", func := "moot/mootlaw19.GameNil", spec := "gameNil", inPlace := ["math/bits.Add64", "internal/reflectlite.TypeOf", "internal/reflectlite.ValueOf", "(internal/reflectlite.Value).Type", "(internal/reflectlite.Value).IsNil", "(internal/reflectlite.Value).Elem", "(internal/reflectlite.Value).Set"], unfollowed := true, recurses := true, named := ["moot/keccak.rounds", "moot/keccak.lanes", "moot/keccak.turns", "math/bits.divideError", "math/bits.overflowError", "errors.errorType"], plainKeys := false, apart := false, laid := [("errors.errorType", laid_errors_errorType), ("moot/keccak.rounds", laid_moot_keccak_rounds), ("moot/keccak.lanes", laid_moot_keccak_lanes), ("moot/keccak.turns", laid_moot_keccak_turns)], narrowed := true }
def GameNilUptoSaid : Prop := gameNilUptoRow.holds Tryz.pinned (OpenSpec.upto gameNilSpec)

/-- 'mootlaw19.GameHolds', WHERE WHAT IT READS IS OF BULK AT MOST 1048576: true; the input reads as it did. -/
def gameHoldsUptoRow : OpenClaim := { program := "ytpcgkiecjakknaagreatdoor", sum := "2e72a2bddf84df00756878444f943c8e904a320c9862cec4eb065bf9bafb0667", func := "moot/mootlaw19.GameHolds", spec := "gameHolds", inPlace := ["math/bits.Add64", "internal/reflectlite.ValueOf", "(internal/reflectlite.Value).Type", "(internal/reflectlite.Value).IsNil", "internal/reflectlite.TypeOf", "(internal/reflectlite.Value).Elem", "(internal/reflectlite.Value).Set"], unfollowed := true, recurses := true, named := ["moot/keccak.rounds", "moot/keccak.lanes", "moot/keccak.turns", "math/bits.divideError", "math/bits.overflowError", "errors.errorType"], plainKeys := false, apart := false, laid := [("errors.errorType", laid_errors_errorType), ("moot/keccak.rounds", laid_moot_keccak_rounds), ("moot/keccak.lanes", laid_moot_keccak_lanes), ("moot/keccak.turns", laid_moot_keccak_turns)], narrowed := true }
def GameHoldsUptoSaid : Prop := gameHoldsUptoRow.holds Tryz.pinned (OpenSpec.upto gameHoldsSpec)

/-- 'mootlaw19.GameTree', WHERE WHAT IT READS IS OF BULK AT MOST 1048576: true; the input reads as it did. -/
def gameTreeUptoRow : OpenClaim := { program := "ytpcgkiecjakknaagreatdoor", sum := "2e72a2bddf84df00756878444f943c8e904a320c9862cec4eb065bf9bafb0667", func := "moot/mootlaw19.GameTree", spec := "gameTree", inPlace := ["math/bits.Add64", "internal/reflectlite.ValueOf", "(internal/reflectlite.Value).Type", "(internal/reflectlite.Value).IsNil", "internal/reflectlite.TypeOf", "(internal/reflectlite.Value).Elem", "(internal/reflectlite.Value).Set"], unfollowed := true, recurses := true, named := ["moot/keccak.rounds", "moot/keccak.lanes", "moot/keccak.turns", "math/bits.divideError", "math/bits.overflowError", "errors.errorType"], plainKeys := false, apart := false, laid := [("errors.errorType", laid_errors_errorType), ("moot/keccak.rounds", laid_moot_keccak_rounds), ("moot/keccak.lanes", laid_moot_keccak_lanes), ("moot/keccak.turns", laid_moot_keccak_turns)], narrowed := true }
def GameTreeUptoSaid : Prop := gameTreeUptoRow.holds Tryz.pinned (OpenSpec.upto gameTreeSpec)

/-- 'mootlaw19.GameBonds', WHERE WHAT IT READS IS OF BULK AT MOST 1048576: true; the input reads as it did. -/
def gameBondsUptoRow : OpenClaim := { program := "ytpcgkiecjakknaagreatdoor", sum := "2e72a2bddf84df00756878444f943c8e904a320c9862cec4eb065bf9bafb0667", func := "moot/mootlaw19.GameBonds", spec := "gameBonds", inPlace := ["math/bits.Add64", "internal/reflectlite.ValueOf", "(internal/reflectlite.Value).Type", "(internal/reflectlite.Value).IsNil", "internal/reflectlite.TypeOf", "(internal/reflectlite.Value).Elem", "(internal/reflectlite.Value).Set"], unfollowed := true, recurses := true, named := ["moot/keccak.rounds", "moot/keccak.lanes", "moot/keccak.turns", "math/bits.divideError", "math/bits.overflowError", "errors.errorType"], plainKeys := false, apart := false, laid := [("errors.errorType", laid_errors_errorType), ("moot/keccak.rounds", laid_moot_keccak_rounds), ("moot/keccak.lanes", laid_moot_keccak_lanes), ("moot/keccak.turns", laid_moot_keccak_turns)], narrowed := true }
def GameBondsUptoSaid : Prop := gameBondsUptoRow.holds Tryz.pinned (OpenSpec.upto gameBondsSpec)

/-- 'mootlaw19.GameClocks', WHERE WHAT IT READS IS OF BULK AT MOST 1048576: true; the input reads as it did. -/
def gameClocksUptoRow : OpenClaim := { program := "ytpcgkiecjakknaagreatdoor", sum := "2e72a2bddf84df00756878444f943c8e904a320c9862cec4eb065bf9bafb0667", func := "moot/mootlaw19.GameClocks", spec := "gameClocks", inPlace := ["math/bits.Add64", "internal/reflectlite.ValueOf", "(internal/reflectlite.Value).Type", "(internal/reflectlite.Value).IsNil", "internal/reflectlite.TypeOf", "(internal/reflectlite.Value).Elem", "(internal/reflectlite.Value).Set"], unfollowed := true, recurses := true, named := ["moot/keccak.rounds", "moot/keccak.lanes", "moot/keccak.turns", "math/bits.divideError", "math/bits.overflowError", "errors.errorType"], plainKeys := false, apart := false, laid := [("errors.errorType", laid_errors_errorType), ("moot/keccak.rounds", laid_moot_keccak_rounds), ("moot/keccak.lanes", laid_moot_keccak_lanes), ("moot/keccak.turns", laid_moot_keccak_turns)], narrowed := true }
def GameClocksUptoSaid : Prop := gameClocksUptoRow.holds Tryz.pinned (OpenSpec.upto gameClocksSpec)

/-- 'mootlaw19.GameEnds', WHERE WHAT IT READS IS OF BULK AT MOST 1048576: true; the input reads as it did. -/
def gameEndsUptoRow : OpenClaim := { program := "ytpcgkiecjakknaagreatdoor", sum := "2e72a2bddf84df00756878444f943c8e904a320c9862cec4eb065bf9bafb0667", func := "moot/mootlaw19.GameEnds", spec := "gameEnds", inPlace := ["math/bits.Add64", "internal/reflectlite.ValueOf", "(internal/reflectlite.Value).Type", "(internal/reflectlite.Value).IsNil", "internal/reflectlite.TypeOf", "(internal/reflectlite.Value).Elem", "(internal/reflectlite.Value).Set"], unfollowed := true, recurses := true, named := ["moot/keccak.rounds", "moot/keccak.lanes", "moot/keccak.turns", "math/bits.divideError", "math/bits.overflowError", "errors.errorType"], plainKeys := false, apart := false, laid := [("errors.errorType", laid_errors_errorType), ("moot/keccak.rounds", laid_moot_keccak_rounds), ("moot/keccak.lanes", laid_moot_keccak_lanes), ("moot/keccak.turns", laid_moot_keccak_turns)], narrowed := true }
def GameEndsUptoSaid : Prop := gameEndsUptoRow.holds Tryz.pinned (OpenSpec.upto gameEndsSpec)

/-- 'mootlaw19.GamePlays', WHERE WHAT IT READS IS OF BULK AT MOST 1048576: true; the input reads as it did. -/
def gamePlaysUptoRow : OpenClaim := { program := "ytpcgkiecjakknaagreatdoor", sum := "2e72a2bddf84df00756878444f943c8e904a320c9862cec4eb065bf9bafb0667", func := "moot/mootlaw19.GamePlays", spec := "gamePlays", inPlace := ["internal/reflectlite.ValueOf", "(internal/reflectlite.Value).Type", "(internal/reflectlite.Value).IsNil", "internal/reflectlite.TypeOf", "(internal/reflectlite.Value).Elem", "(internal/reflectlite.Value).Set", "math/bits.Add64"], unfollowed := true, recurses := true, named := ["errors.errorType", "moot/keccak.rounds", "moot/keccak.lanes", "moot/keccak.turns", "math/bits.divideError", "math/bits.overflowError"], plainKeys := false, apart := false, laid := [("errors.errorType", laid_errors_errorType), ("moot/keccak.rounds", laid_moot_keccak_rounds), ("moot/keccak.lanes", laid_moot_keccak_lanes), ("moot/keccak.turns", laid_moot_keccak_turns)], narrowed := true }
def GamePlaysUptoSaid : Prop := gamePlaysUptoRow.holds Tryz.pinned (OpenSpec.upto gamePlaysSpec)

end Rows
end Go.Proofs.YtpcgkiecjakknaaGreatDoor
