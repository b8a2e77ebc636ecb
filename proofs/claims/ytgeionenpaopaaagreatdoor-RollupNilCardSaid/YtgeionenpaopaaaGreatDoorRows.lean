/-
  NARROWER THAN 'FOR EVERY INPUT', by the rows' own cells (each row's printed sentence says how): RollupNil: laid · RollupTurns: laid · RollupPlays: laid.
  DERIVED. THE GIVEN ROWS OF THIS SEAT. 3 by the template 'for every input the law returns true; each argument reads behind the call as it read before'; 0 by the template 'total and deterministic' (their statements: YtgeionenpaopaaaGreatDoorTotals.lean).
  GIVEN WITH THE SEED: the statements are not yours to turn. If you find one false, say at which input.
  Laid BY PROGRAM, IN A SANDBOX (cutbox-rows.mjs): the forced cells as the released guide's own fill.sh prints them over the translation 333bb21350d35190… (all of the seat's roots in one cut). By AI agents, Wed Nov 11 2026. No macro, syntax, notation, axiom, sorry.
-/
import Derived.Test.YtgeionenpaopaaaGreatDoorChecked
import GoSem.Claim
import GoSem.ClaimJoined
import GoSem.ClaimMapViews
import Derived.JoinedTies
import Derived.KernelRfl
namespace Go.Proofs.YtgeionenpaopaaaGreatDoor
/- THE CELL 'sum', in the pinned program and in every row, IS THE sha256 OF THE DUMP (.gsa) THAT YtgeionenpaopaaaGreatDoorProg.lean LOADS. Nothing in Lean hashes anything: it is a label: what it is worth is what the hold of that sum in a sandbox is worth. -/
noncomputable def Tryz.pinned : Pinned := { name := "ytgeionenpaopaaagreatdoor", sum := "333bb21350d35190f3292b978fcd760820fbf23a034458e26acff91179ca38e2", checked := Tryz.checked }
namespace Rows
def none {H : Type} : Left H := { results := [], args := [] }

/- WHAT THE LISTED PACKAGE-LEVEL VARIABLES READ AS WHEN THE CALL BEGINS. Each datum BY PROGRAM (the guide's laid-datum.mjs) off the statement by which the dump's own 'gosem.cut.vars' lays the variable. In a bare row this is a premise. The card (YtgeionenpaopaaaGreatDoorCards.lean) ties it to the program's text. -/
def laid_moot_keccak_rounds {H : Type} : DataW H := .agg [.lit (.int .u64 1), .lit (.int .u64 32898), .lit (.int .u64 9223372036854808714), .lit (.int .u64 9223372039002292224), .lit (.int .u64 32907), .lit (.int .u64 2147483649), .lit (.int .u64 9223372039002292353), .lit (.int .u64 9223372036854808585), .lit (.int .u64 138), .lit (.int .u64 136), .lit (.int .u64 2147516425), .lit (.int .u64 2147483658), .lit (.int .u64 2147516555), .lit (.int .u64 9223372036854775947), .lit (.int .u64 9223372036854808713), .lit (.int .u64 9223372036854808579), .lit (.int .u64 9223372036854808578), .lit (.int .u64 9223372036854775936), .lit (.int .u64 32778), .lit (.int .u64 9223372039002259466), .lit (.int .u64 9223372039002292353), .lit (.int .u64 9223372036854808704), .lit (.int .u64 2147483649), .lit (.int .u64 9223372039002292232)]
def laid_moot_keccak_lanes {H : Type} : DataW H := .agg [.lit (.int .i64 10), .lit (.int .i64 7), .lit (.int .i64 11), .lit (.int .i64 17), .lit (.int .i64 18), .lit (.int .i64 3), .lit (.int .i64 5), .lit (.int .i64 16), .lit (.int .i64 8), .lit (.int .i64 21), .lit (.int .i64 24), .lit (.int .i64 4), .lit (.int .i64 15), .lit (.int .i64 23), .lit (.int .i64 19), .lit (.int .i64 13), .lit (.int .i64 12), .lit (.int .i64 2), .lit (.int .i64 20), .lit (.int .i64 14), .lit (.int .i64 22), .lit (.int .i64 9), .lit (.int .i64 6), .lit (.int .i64 1)]
def laid_moot_keccak_turns {H : Type} : DataW H := .agg [.lit (.int .i64 1), .lit (.int .i64 3), .lit (.int .i64 6), .lit (.int .i64 10), .lit (.int .i64 15), .lit (.int .i64 21), .lit (.int .i64 28), .lit (.int .i64 36), .lit (.int .i64 45), .lit (.int .i64 55), .lit (.int .i64 2), .lit (.int .i64 14), .lit (.int .i64 27), .lit (.int .i64 41), .lit (.int .i64 56), .lit (.int .i64 8), .lit (.int .i64 25), .lit (.int .i64 43), .lit (.int .i64 62), .lit (.int .i64 18), .lit (.int .i64 39), .lit (.int .i64 61), .lit (.int .i64 20), .lit (.int .i64 44)]
def laid_errors_errorType {H : Type} : DataW H := .iface "internal/reflectlite.rtype" (.agg [.ptr (.lit (.string [101, 114, 114, 111, 114]))])

/-- 'mootlaw21.RollupNil': WHATEVER THE INPUT: true; the input reads as it did. -/
def rollupNilSpec : ChangeSpec := { name := "rollupNil", fn := fun _ => fun
  | [d1, d2] => { results := [.lit (.bool true)], args := [d1, d2] }
  | _ => none }
def rollupNilRow : OpenClaim := { program := "ytgeionenpaopaaagreatdoor", sum := "333bb21350d35190f3292b978fcd760820fbf23a034458e26acff91179ca38e2", func := "moot/mootlaw21.RollupNil", spec := "rollupNil", inPlace := ["internal/reflectlite.TypeOf"], unfollowed := true, recurses := true, named := ["moot/keccak.rounds", "moot/keccak.lanes", "moot/keccak.turns"], plainKeys := false, apart := false, laid := [("moot/keccak.rounds", laid_moot_keccak_rounds), ("moot/keccak.lanes", laid_moot_keccak_lanes), ("moot/keccak.turns", laid_moot_keccak_turns)] }
def RollupNilSaid : Prop := rollupNilRow.holds Tryz.pinned (OpenSpec.ofChange rollupNilSpec)

/-- ITS FALSE NEIGHBOUR: 'it returns false'. Refute it at one input. -/
def rollupNilWrong : ChangeSpec := { name := "rollupNil", fn := fun _ => fun
  | [d1, d2] => { results := [.lit (.bool false)], args := [d1, d2] }
  | _ => none }
def RollupNilWrongFalsely : Prop := rollupNilRow.holds Tryz.pinned (OpenSpec.ofChange rollupNilWrong)

/-- 'mootlaw21.RollupTurns': WHATEVER THE INPUT: true; the input reads as it did. -/
def rollupTurnsSpec : ChangeSpec := { name := "rollupTurns", fn := fun _ => fun
  | [d1, d2, d3] => { results := [.lit (.bool true)], args := [d1, d2, d3] }
  | _ => none }
def rollupTurnsRow : OpenClaim := { program := "ytgeionenpaopaaagreatdoor", sum := "333bb21350d35190f3292b978fcd760820fbf23a034458e26acff91179ca38e2", func := "moot/mootlaw21.RollupTurns", spec := "rollupTurns", inPlace := ["internal/reflectlite.TypeOf"], unfollowed := true, recurses := true, named := ["moot/keccak.rounds", "moot/keccak.lanes", "moot/keccak.turns"], plainKeys := false, apart := false, laid := [("moot/keccak.rounds", laid_moot_keccak_rounds), ("moot/keccak.lanes", laid_moot_keccak_lanes), ("moot/keccak.turns", laid_moot_keccak_turns)] }
def RollupTurnsSaid : Prop := rollupTurnsRow.holds Tryz.pinned (OpenSpec.ofChange rollupTurnsSpec)

/-- ITS FALSE NEIGHBOUR: 'it returns false'. Refute it at one input. -/
def rollupTurnsWrong : ChangeSpec := { name := "rollupTurns", fn := fun _ => fun
  | [d1, d2, d3] => { results := [.lit (.bool false)], args := [d1, d2, d3] }
  | _ => none }
def RollupTurnsWrongFalsely : Prop := rollupTurnsRow.holds Tryz.pinned (OpenSpec.ofChange rollupTurnsWrong)

/-- 'mootlaw21.RollupPlays': WHATEVER THE INPUT: true; the input reads as it did. -/
def rollupPlaysSpec : ChangeSpec := { name := "rollupPlays", fn := fun _ => fun
  | [d1, d2] => { results := [.lit (.bool true)], args := [d1, d2] }
  | _ => none }
def rollupPlaysRow : OpenClaim := { program := "ytgeionenpaopaaagreatdoor", sum := "333bb21350d35190f3292b978fcd760820fbf23a034458e26acff91179ca38e2", func := "moot/mootlaw21.RollupPlays", spec := "rollupPlays", inPlace := ["internal/reflectlite.TypeOf", "internal/reflectlite.ValueOf", "(internal/reflectlite.Value).Type", "(internal/reflectlite.Value).IsNil", "(internal/reflectlite.Value).Elem", "(internal/reflectlite.Value).Set"], unfollowed := true, recurses := true, named := ["moot/keccak.rounds", "moot/keccak.lanes", "moot/keccak.turns", "errors.errorType"], plainKeys := false, apart := false, laid := [("errors.errorType", laid_errors_errorType), ("moot/keccak.rounds", laid_moot_keccak_rounds), ("moot/keccak.lanes", laid_moot_keccak_lanes), ("moot/keccak.turns", laid_moot_keccak_turns)] }
def RollupPlaysSaid : Prop := rollupPlaysRow.holds Tryz.pinned (OpenSpec.ofChange rollupPlaysSpec)

/-- ITS FALSE NEIGHBOUR: 'it returns false'. Refute it at one input. -/
def rollupPlaysWrong : ChangeSpec := { name := "rollupPlays", fn := fun _ => fun
  | [d1, d2] => { results := [.lit (.bool false)], args := [d1, d2] }
  | _ => none }
def RollupPlaysWrongFalsely : Prop := rollupPlaysRow.holds Tryz.pinned (OpenSpec.ofChange rollupPlaysWrong)

/- THE SECOND FORM. 'bulk': how many values and letters a reading holds, each counted each time it is reached (what is shared counts as often as it is met; a slice's spare places count too). A statement '..UptoSaid' is the law's where the arguments, and the package variables that the reading takes, are together of bulk at most 1048576: NARROWER than '..Said'. Prove '..Said' where nothing that the law and all that it calls make is longer than what came in: it says more and counts as full. Else prove '..UptoSaid'. A law counts once. -/
mutual
def uptoBulk {H : Type} : DataW H → Nat
  | .lit (.string bytes) => bytes.length + 1
  | .lit _ => 1
  | .nil => 1
  | .ptr d => uptoBulk d + 1
  | .slice elems spare => uptoBulkAll elems + uptoBulkAll spare + 1
  | .agg parts => uptoBulkAll parts + 1
  | .iface _ d => uptoBulk d + 1
  | .map entries => uptoBulkEntries entries + 1
  | .held _ => 1
def uptoBulkAll {H : Type} : List (DataW H) → Nat
  | [] => 0
  | d :: r => uptoBulk d + uptoBulkAll r
def uptoBulkEntries {H : Type} : List (Lit × DataW H) → Nat
  | [] => 0
  | x :: r => uptoBulkEntry x + uptoBulkEntries r
def uptoBulkEntry {H : Type} : Lit × DataW H → Nat
  | (.string bytes, d) => bytes.length + uptoBulk d + 1
  | (_, d) => uptoBulk d + 1
 end
def uptoSmall : (H : Type) → List (DataW H) → Bool := fun _ ds => decide (uptoBulkAll ds ≤ 1048576)
def OpenSpec.upto (s : _root_.Go.ChangeSpec) : _root_.Go.OpenSpec := { _root_.Go.OpenSpec.ofChange s with cond := some uptoSmall }

/-- 'mootlaw21.RollupNil', WHERE WHAT IT READS IS OF BULK AT MOST 1048576: true; the input reads as it did. -/
def rollupNilUptoRow : OpenClaim := { program := "ytgeionenpaopaaagreatdoor", sum := "333bb21350d35190f3292b978fcd760820fbf23a034458e26acff91179ca38e2", func := "moot/mootlaw21.RollupNil", spec := "rollupNil", inPlace := ["internal/reflectlite.TypeOf"], unfollowed := true, recurses := true, named := ["moot/keccak.rounds", "moot/keccak.lanes", "moot/keccak.turns"], plainKeys := false, apart := false, laid := [("moot/keccak.rounds", laid_moot_keccak_rounds), ("moot/keccak.lanes", laid_moot_keccak_lanes), ("moot/keccak.turns", laid_moot_keccak_turns)], narrowed := true }
def RollupNilUptoSaid : Prop := rollupNilUptoRow.holds Tryz.pinned (OpenSpec.upto rollupNilSpec)

/-- 'mootlaw21.RollupTurns', WHERE WHAT IT READS IS OF BULK AT MOST 1048576: true; the input reads as it did. -/
def rollupTurnsUptoRow : OpenClaim := { program := "ytgeionenpaopaaagreatdoor", sum := "333bb21350d35190f3292b978fcd760820fbf23a034458e26acff91179ca38e2", func := "moot/mootlaw21.RollupTurns", spec := "rollupTurns", inPlace := ["internal/reflectlite.TypeOf"], unfollowed := true, recurses := true, named := ["moot/keccak.rounds", "moot/keccak.lanes", "moot/keccak.turns"], plainKeys := false, apart := false, laid := [("moot/keccak.rounds", laid_moot_keccak_rounds), ("moot/keccak.lanes", laid_moot_keccak_lanes), ("moot/keccak.turns", laid_moot_keccak_turns)], narrowed := true }
def RollupTurnsUptoSaid : Prop := rollupTurnsUptoRow.holds Tryz.pinned (OpenSpec.upto rollupTurnsSpec)

/-- 'mootlaw21.RollupPlays', WHERE WHAT IT READS IS OF BULK AT MOST 1048576: true; the input reads as it did. -/
def rollupPlaysUptoRow : OpenClaim := { program := "ytgeionenpaopaaagreatdoor", sum := "333bb21350d35190f3292b978fcd760820fbf23a034458e26acff91179ca38e2", func := "moot/mootlaw21.RollupPlays", spec := "rollupPlays", inPlace := ["internal/reflectlite.TypeOf", "internal/reflectlite.ValueOf", "(internal/reflectlite.Value).Type", "(internal/reflectlite.Value).IsNil", "(internal/reflectlite.Value).Elem", "(internal/reflectlite.Value).Set"], unfollowed := true, recurses := true, named := ["moot/keccak.rounds", "moot/keccak.lanes", "moot/keccak.turns", "errors.errorType"], plainKeys := false, apart := false, laid := [("errors.errorType", laid_errors_errorType), ("moot/keccak.rounds", laid_moot_keccak_rounds), ("moot/keccak.lanes", laid_moot_keccak_lanes), ("moot/keccak.turns", laid_moot_keccak_turns)], narrowed := true }
def RollupPlaysUptoSaid : Prop := rollupPlaysUptoRow.holds Tryz.pinned (OpenSpec.upto rollupPlaysSpec)

end Rows
end Go.Proofs.YtgeionenpaopaaaGreatDoor
