/-
  NARROWER THAN 'FOR EVERY INPUT', by the rows' own cells (each row's printed sentence says how): HonestNil: laid · HonestAbsent: laid · HonestTraces: laid · HonestAsks: laid.
  DERIVED. THE GIVEN ROWS OF THIS SEAT. 4 by the template 'for every input the law returns true; each argument reads behind the call as it read before'; 0 by the template 'total and deterministic' (their statements: YtlfkjfonpacelaaGreatDoorTotals.lean).
  GIVEN WITH THE SEED: the statements are not yours to turn. If you find one false, say at which input.
  Laid BY PROGRAM, IN A SANDBOX (cutbox-rows.mjs): the forced cells as the released guide's own fill.sh prints them over the translation 7c327200dfcd8705… (all of the seat's roots in one cut). By AI agents, Wed Nov 11 2026. No macro, syntax, notation, axiom, sorry.
-/
import Derived.Test.YtlfkjfonpacelaaGreatDoorChecked
import GoSem.Claim
import GoSem.ClaimJoined
import GoSem.ClaimMapViews
import Derived.JoinedTies
import Derived.KernelRfl
namespace Go.Proofs.YtlfkjfonpacelaaGreatDoor
/- THE CELL 'sum', in the pinned program and in every row, IS THE sha256 OF THE DUMP (.gsa) THAT YtlfkjfonpacelaaGreatDoorProg.lean LOADS. Nothing in Lean hashes anything: it is a label: what it is worth is what the hold of that sum in a sandbox is worth. -/
noncomputable def Tryz.pinned : Pinned := { name := "ytlfkjfonpacelaagreatdoor", sum := "7c327200dfcd87053e0641ad64b608f88dfc9c09c2b6387ff850e0e6cf04cd3f", checked := Tryz.checked }
namespace Rows
def none {H : Type} : Left H := { results := [], args := [] }

/- WHAT THE LISTED PACKAGE-LEVEL VARIABLES READ AS WHEN THE CALL BEGINS. Each datum BY PROGRAM (the guide's laid-datum.mjs) off the statement by which the dump's own 'gosem.cut.vars' lays the variable. In a bare row this is a premise. The card (YtlfkjfonpacelaaGreatDoorCards.lean) ties it to the program's text. -/
def laid_moot_keccak_rounds {H : Type} : DataW H := .agg [.lit (.int .u64 1), .lit (.int .u64 32898), .lit (.int .u64 9223372036854808714), .lit (.int .u64 9223372039002292224), .lit (.int .u64 32907), .lit (.int .u64 2147483649), .lit (.int .u64 9223372039002292353), .lit (.int .u64 9223372036854808585), .lit (.int .u64 138), .lit (.int .u64 136), .lit (.int .u64 2147516425), .lit (.int .u64 2147483658), .lit (.int .u64 2147516555), .lit (.int .u64 9223372036854775947), .lit (.int .u64 9223372036854808713), .lit (.int .u64 9223372036854808579), .lit (.int .u64 9223372036854808578), .lit (.int .u64 9223372036854775936), .lit (.int .u64 32778), .lit (.int .u64 9223372039002259466), .lit (.int .u64 9223372039002292353), .lit (.int .u64 9223372036854808704), .lit (.int .u64 2147483649), .lit (.int .u64 9223372039002292232)]
def laid_moot_keccak_lanes {H : Type} : DataW H := .agg [.lit (.int .i64 10), .lit (.int .i64 7), .lit (.int .i64 11), .lit (.int .i64 17), .lit (.int .i64 18), .lit (.int .i64 3), .lit (.int .i64 5), .lit (.int .i64 16), .lit (.int .i64 8), .lit (.int .i64 21), .lit (.int .i64 24), .lit (.int .i64 4), .lit (.int .i64 15), .lit (.int .i64 23), .lit (.int .i64 19), .lit (.int .i64 13), .lit (.int .i64 12), .lit (.int .i64 2), .lit (.int .i64 20), .lit (.int .i64 14), .lit (.int .i64 22), .lit (.int .i64 9), .lit (.int .i64 6), .lit (.int .i64 1)]
def laid_moot_keccak_turns {H : Type} : DataW H := .agg [.lit (.int .i64 1), .lit (.int .i64 3), .lit (.int .i64 6), .lit (.int .i64 10), .lit (.int .i64 15), .lit (.int .i64 21), .lit (.int .i64 28), .lit (.int .i64 36), .lit (.int .i64 45), .lit (.int .i64 55), .lit (.int .i64 2), .lit (.int .i64 14), .lit (.int .i64 27), .lit (.int .i64 41), .lit (.int .i64 56), .lit (.int .i64 8), .lit (.int .i64 25), .lit (.int .i64 43), .lit (.int .i64 62), .lit (.int .i64 18), .lit (.int .i64 39), .lit (.int .i64 61), .lit (.int .i64 20), .lit (.int .i64 44)]
def laid_errors_errorType {H : Type} : DataW H := .iface "internal/reflectlite.rtype" (.agg [.ptr (.lit (.string [101, 114, 114, 111, 114]))])

/-- 'mootlaw20.HonestNil': WHATEVER THE INPUT: true; the input reads as it did. -/
def honestNilSpec : ChangeSpec := { name := "honestNil", fn := fun _ => fun
  | [d1, d2, d3] => { results := [.lit (.bool true)], args := [d1, d2, d3] }
  | _ => none }
def honestNilRow : OpenClaim := { program := "ytlfkjfonpacelaagreatdoor", sum := "7c327200dfcd87053e0641ad64b608f88dfc9c09c2b6387ff850e0e6cf04cd3f", func := "moot/mootlaw20.HonestNil", spec := "honestNil", inPlace := ["maps.clone", "math/bits.Add64", "internal/reflectlite.TypeOf"], unfollowed := true, recurses := true, named := ["moot/keccak.rounds", "moot/keccak.lanes", "moot/keccak.turns", "math/bits.divideError", "math/bits.overflowError"], plainKeys := false, apart := false, laid := [("moot/keccak.rounds", laid_moot_keccak_rounds), ("moot/keccak.lanes", laid_moot_keccak_lanes), ("moot/keccak.turns", laid_moot_keccak_turns)] }
def HonestNilSaid : Prop := honestNilRow.holds Tryz.pinned (OpenSpec.ofChange honestNilSpec)

/-- ITS FALSE NEIGHBOUR: 'it returns false'. Refute it at one input. -/
def honestNilWrong : ChangeSpec := { name := "honestNil", fn := fun _ => fun
  | [d1, d2, d3] => { results := [.lit (.bool false)], args := [d1, d2, d3] }
  | _ => none }
def HonestNilWrongFalsely : Prop := honestNilRow.holds Tryz.pinned (OpenSpec.ofChange honestNilWrong)

/-- 'mootlaw20.HonestAbsent': WHATEVER THE INPUT: true; the input reads as it did. -/
def honestAbsentSpec : ChangeSpec := { name := "honestAbsent", fn := fun _ => fun
  | [d1, d2, d3] => { results := [.lit (.bool true)], args := [d1, d2, d3] }
  | _ => none }
def honestAbsentRow : OpenClaim := { program := "ytlfkjfonpacelaagreatdoor", sum := "7c327200dfcd87053e0641ad64b608f88dfc9c09c2b6387ff850e0e6cf04cd3f", func := "moot/mootlaw20.HonestAbsent", spec := "honestAbsent", inPlace := ["maps.clone", "math/bits.Add64"], unfollowed := true, recurses := true, named := ["moot/keccak.rounds", "moot/keccak.lanes", "moot/keccak.turns", "math/bits.divideError", "math/bits.overflowError"], plainKeys := false, apart := false, laid := [("moot/keccak.rounds", laid_moot_keccak_rounds), ("moot/keccak.lanes", laid_moot_keccak_lanes), ("moot/keccak.turns", laid_moot_keccak_turns)] }
def HonestAbsentSaid : Prop := honestAbsentRow.holds Tryz.pinned (OpenSpec.ofChange honestAbsentSpec)

/-- ITS FALSE NEIGHBOUR: 'it returns false'. Refute it at one input. -/
def honestAbsentWrong : ChangeSpec := { name := "honestAbsent", fn := fun _ => fun
  | [d1, d2, d3] => { results := [.lit (.bool false)], args := [d1, d2, d3] }
  | _ => none }
def HonestAbsentWrongFalsely : Prop := honestAbsentRow.holds Tryz.pinned (OpenSpec.ofChange honestAbsentWrong)

/-- 'mootlaw20.HonestTraces': WHATEVER THE INPUT: true; the input reads as it did. -/
def honestTracesSpec : ChangeSpec := { name := "honestTraces", fn := fun _ => fun
  | [d1, d2, d3] => { results := [.lit (.bool true)], args := [d1, d2, d3] }
  | _ => none }
def honestTracesRow : OpenClaim := { program := "ytlfkjfonpacelaagreatdoor", sum := "7c327200dfcd87053e0641ad64b608f88dfc9c09c2b6387ff850e0e6cf04cd3f", func := "moot/mootlaw20.HonestTraces", spec := "honestTraces", inPlace := ["maps.clone", "math/bits.Add64", "internal/reflectlite.TypeOf", "internal/reflectlite.ValueOf", "(internal/reflectlite.Value).Type", "(internal/reflectlite.Value).IsNil", "(internal/reflectlite.Value).Elem", "(internal/reflectlite.Value).Set"], unfollowed := true, recurses := true, named := ["moot/keccak.rounds", "moot/keccak.lanes", "moot/keccak.turns", "math/bits.divideError", "math/bits.overflowError", "errors.errorType"], plainKeys := false, apart := false, laid := [("errors.errorType", laid_errors_errorType), ("moot/keccak.rounds", laid_moot_keccak_rounds), ("moot/keccak.lanes", laid_moot_keccak_lanes), ("moot/keccak.turns", laid_moot_keccak_turns)] }
def HonestTracesSaid : Prop := honestTracesRow.holds Tryz.pinned (OpenSpec.ofChange honestTracesSpec)

/-- ITS FALSE NEIGHBOUR: 'it returns false'. Refute it at one input. -/
def honestTracesWrong : ChangeSpec := { name := "honestTraces", fn := fun _ => fun
  | [d1, d2, d3] => { results := [.lit (.bool false)], args := [d1, d2, d3] }
  | _ => none }
def HonestTracesWrongFalsely : Prop := honestTracesRow.holds Tryz.pinned (OpenSpec.ofChange honestTracesWrong)

/-- 'mootlaw20.HonestAsks': WHATEVER THE INPUT: true; the input reads as it did. -/
def honestAsksSpec : ChangeSpec := { name := "honestAsks", fn := fun _ => fun
  | [d1, d2, d3, d4, d5] => { results := [.lit (.bool true)], args := [d1, d2, d3, d4, d5] }
  | _ => none }
def honestAsksRow : OpenClaim := { program := "ytlfkjfonpacelaagreatdoor", sum := "7c327200dfcd87053e0641ad64b608f88dfc9c09c2b6387ff850e0e6cf04cd3f", func := "moot/mootlaw20.HonestAsks", spec := "honestAsks", inPlace := ["maps.clone", "math/bits.Add64", "internal/reflectlite.TypeOf"], unfollowed := true, recurses := true, named := ["moot/keccak.rounds", "moot/keccak.lanes", "moot/keccak.turns", "math/bits.divideError", "math/bits.overflowError"], plainKeys := false, apart := false, laid := [("moot/keccak.rounds", laid_moot_keccak_rounds), ("moot/keccak.lanes", laid_moot_keccak_lanes), ("moot/keccak.turns", laid_moot_keccak_turns)] }
def HonestAsksSaid : Prop := honestAsksRow.holds Tryz.pinned (OpenSpec.ofChange honestAsksSpec)

/-- ITS FALSE NEIGHBOUR: 'it returns false'. Refute it at one input. -/
def honestAsksWrong : ChangeSpec := { name := "honestAsks", fn := fun _ => fun
  | [d1, d2, d3, d4, d5] => { results := [.lit (.bool false)], args := [d1, d2, d3, d4, d5] }
  | _ => none }
def HonestAsksWrongFalsely : Prop := honestAsksRow.holds Tryz.pinned (OpenSpec.ofChange honestAsksWrong)

/- THE SECOND FORM. 'bulk': how many values and letters a reading holds, each counted each time it is reached (what is shared counts as often as it is met; a slice's spare places count too). A statement '..UptoSaid' is the law's where the arguments, and the package variables that the reading takes, are together of bulk at most 1048576: NARROWER than '..Said'. Prove '..Said' where nothing that the law and all that it calls make is longer than what came in: it says more and counts as full. Else prove '..UptoSaid'. A law counts once. -/
mutual
def uptoBulk {H : Type} : DataW H → Nat
  | .lit (.string bytes) => bytes.length + 1
  | .lit _ => 1
  | .nil => 1
  | .ptr d => uptoBulk d + 1
  | .slice elems spare => uptoBulkAll elems + uptoBulkAll spare + 1
  | .agg parts => uptoBulkAll parts + 1
  | .iface _ d => uptoBulk d + 1
  | .map entries => uptoBulkEntries entries + 1
  | .held _ => 1
def uptoBulkAll {H : Type} : List (DataW H) → Nat
  | [] => 0
  | d :: r => uptoBulk d + uptoBulkAll r
def uptoBulkEntries {H : Type} : List (Lit × DataW H) → Nat
  | [] => 0
  | x :: r => uptoBulkEntry x + uptoBulkEntries r
def uptoBulkEntry {H : Type} : Lit × DataW H → Nat
  | (.string bytes, d) => bytes.length + uptoBulk d + 1
  | (_, d) => uptoBulk d + 1
 end
def uptoSmall : (H : Type) → List (DataW H) → Bool := fun _ ds => decide (uptoBulkAll ds ≤ 1048576)
def OpenSpec.upto (s : _root_.Go.ChangeSpec) : _root_.Go.OpenSpec := { _root_.Go.OpenSpec.ofChange s with cond := some uptoSmall }

/-- 'mootlaw20.HonestNil', WHERE WHAT IT READS IS OF BULK AT MOST 1048576: true; the input reads as it did. -/
def honestNilUptoRow : OpenClaim := { program := "ytlfkjfonpacelaagreatdoor", sum := "7c327200dfcd87053e0641ad64b608f88dfc9c09c2b6387ff850e0e6cf04cd3f", func := "moot/mootlaw20.HonestNil", spec := "honestNil", inPlace := ["maps.clone", "math/bits.Add64", "internal/reflectlite.TypeOf"], unfollowed := true, recurses := true, named := ["moot/keccak.rounds", "moot/keccak.lanes", "moot/keccak.turns", "math/bits.divideError", "math/bits.overflowError"], plainKeys := false, apart := false, laid := [("moot/keccak.rounds", laid_moot_keccak_rounds), ("moot/keccak.lanes", laid_moot_keccak_lanes), ("moot/keccak.turns", laid_moot_keccak_turns)], narrowed := true }
def HonestNilUptoSaid : Prop := honestNilUptoRow.holds Tryz.pinned (OpenSpec.upto honestNilSpec)

/-- 'mootlaw20.HonestAbsent', WHERE WHAT IT READS IS OF BULK AT MOST 1048576: true; the input reads as it did. -/
def honestAbsentUptoRow : OpenClaim := { program := "ytlfkjfonpacelaagreatdoor", sum := "7c327200dfcd87053e0641ad64b608f88dfc9c09c2b6387ff850e0e6cf04cd3f", func := "moot/mootlaw20.HonestAbsent", spec := "honestAbsent", inPlace := ["maps.clone", "math/bits.Add64"], unfollowed := true, recurses := true, named := ["moot/keccak.rounds", "moot/keccak.lanes", "moot/keccak.turns", "math/bits.divideError", "math/bits.overflowError"], plainKeys := false, apart := false, laid := [("moot/keccak.rounds", laid_moot_keccak_rounds), ("moot/keccak.lanes", laid_moot_keccak_lanes), ("moot/keccak.turns", laid_moot_keccak_turns)], narrowed := true }
def HonestAbsentUptoSaid : Prop := honestAbsentUptoRow.holds Tryz.pinned (OpenSpec.upto honestAbsentSpec)

/-- 'mootlaw20.HonestTraces', WHERE WHAT IT READS IS OF BULK AT MOST 1048576: true; the input reads as it did. -/
def honestTracesUptoRow : OpenClaim := { program := "ytlfkjfonpacelaagreatdoor", sum := "7c327200dfcd87053e0641ad64b608f88dfc9c09c2b6387ff850e0e6cf04cd3f", func := "moot/mootlaw20.HonestTraces", spec := "honestTraces", inPlace := ["maps.clone", "math/bits.Add64", "internal/reflectlite.TypeOf", "internal/reflectlite.ValueOf", "(internal/reflectlite.Value).Type", "(internal/reflectlite.Value).IsNil", "(internal/reflectlite.Value).Elem", "(internal/reflectlite.Value).Set"], unfollowed := true, recurses := true, named := ["moot/keccak.rounds", "moot/keccak.lanes", "moot/keccak.turns", "math/bits.divideError", "math/bits.overflowError", "errors.errorType"], plainKeys := false, apart := false, laid := [("errors.errorType", laid_errors_errorType), ("moot/keccak.rounds", laid_moot_keccak_rounds), ("moot/keccak.lanes", laid_moot_keccak_lanes), ("moot/keccak.turns", laid_moot_keccak_turns)], narrowed := true }
def HonestTracesUptoSaid : Prop := honestTracesUptoRow.holds Tryz.pinned (OpenSpec.upto honestTracesSpec)

/-- 'mootlaw20.HonestAsks', WHERE WHAT IT READS IS OF BULK AT MOST 1048576: true; the input reads as it did. -/
def honestAsksUptoRow : OpenClaim := { program := "ytlfkjfonpacelaagreatdoor", sum := "7c327200dfcd87053e0641ad64b608f88dfc9c09c2b6387ff850e0e6cf04cd3f", func := "moot/mootlaw20.HonestAsks", spec := "honestAsks", inPlace := ["maps.clone", "math/bits.Add64", "internal/reflectlite.TypeOf"], unfollowed := true, recurses := true, named := ["moot/keccak.rounds", "moot/keccak.lanes", "moot/keccak.turns", "math/bits.divideError", "math/bits.overflowError"], plainKeys := false, apart := false, laid := [("moot/keccak.rounds", laid_moot_keccak_rounds), ("moot/keccak.lanes", laid_moot_keccak_lanes), ("moot/keccak.turns", laid_moot_keccak_turns)], narrowed := true }
def HonestAsksUptoSaid : Prop := honestAsksUptoRow.holds Tryz.pinned (OpenSpec.upto honestAsksSpec)

end Rows
end Go.Proofs.YtlfkjfonpacelaaGreatDoor
