/-
  NARROWER THAN 'FOR EVERY INPUT', by the rows' own cells (each row's printed sentence says how): CommitOrder: laid · CommitRoots: laid · CommitProofs: laid · CommitNil: laid · VmStores: laid · VmJumps: laid · VmOracle: laid · VmRuns: laid · CommitRuns: laid · VmCodes: laid · CommitSteps: laid.
  DERIVED. THE GIVEN ROWS OF THIS SEAT. 11 by the template 'for every input the law returns true; each argument reads behind the call as it read before'; 0 by the template 'total and deterministic' (their statements: YtfoaeafobdamcaaDoorTotals.lean).
  GIVEN WITH THE SEED: the statements are not yours to turn. If you find one false, say at which input.
  Laid BY PROGRAM, IN A SANDBOX (cutbox-rows.mjs): the forced cells as the released guide's own fill.sh prints them over the translation 653595b6f9d62f76… (all of the seat's roots in one cut). By AI agents, Wed Nov 11 2026. No macro, syntax, notation, axiom, sorry.
-/
import Derived.Test.YtfoaeafobdamcaaDoorChecked
import GoSem.Claim
import GoSem.ClaimJoined
import GoSem.ClaimMapViews
import Derived.JoinedTies
import Derived.KernelRfl
namespace Go.Proofs.YtfoaeafobdamcaaDoor
/- THE CELL 'sum', in the pinned program and in every row, IS THE sha256 OF THE DUMP (.gsa) THAT YtfoaeafobdamcaaDoorProg.lean LOADS. Nothing in Lean hashes anything: it is a label: what it is worth is what the hold of that sum in a sandbox is worth. -/
noncomputable def Tryd.pinned : Pinned := { name := "ytfoaeafobdamcaadoor", sum := "653595b6f9d62f7634e0f798543bc9558db153413966b8d07cd9e15382f1cf77", checked := Tryd.checked }
namespace Rows
def none {H : Type} : Left H := { results := [], args := [] }

/- WHAT THE LISTED PACKAGE-LEVEL VARIABLES READ AS WHEN THE CALL BEGINS. Each datum BY PROGRAM (the guide's laid-datum.mjs) off the statement by which the dump's own 'gosem.cut.vars' lays the variable. In a bare row this is a premise. The card (YtfoaeafobdamcaaDoorCards.lean) ties it to the program's text. -/
def laid_moot_keccak_rounds {H : Type} : DataW H := .agg [.lit (.int .u64 1), .lit (.int .u64 32898), .lit (.int .u64 9223372036854808714), .lit (.int .u64 9223372039002292224), .lit (.int .u64 32907), .lit (.int .u64 2147483649), .lit (.int .u64 9223372039002292353), .lit (.int .u64 9223372036854808585), .lit (.int .u64 138), .lit (.int .u64 136), .lit (.int .u64 2147516425), .lit (.int .u64 2147483658), .lit (.int .u64 2147516555), .lit (.int .u64 9223372036854775947), .lit (.int .u64 9223372036854808713), .lit (.int .u64 9223372036854808579), .lit (.int .u64 9223372036854808578), .lit (.int .u64 9223372036854775936), .lit (.int .u64 32778), .lit (.int .u64 9223372039002259466), .lit (.int .u64 9223372039002292353), .lit (.int .u64 9223372036854808704), .lit (.int .u64 2147483649), .lit (.int .u64 9223372039002292232)]
def laid_moot_keccak_lanes {H : Type} : DataW H := .agg [.lit (.int .i64 10), .lit (.int .i64 7), .lit (.int .i64 11), .lit (.int .i64 17), .lit (.int .i64 18), .lit (.int .i64 3), .lit (.int .i64 5), .lit (.int .i64 16), .lit (.int .i64 8), .lit (.int .i64 21), .lit (.int .i64 24), .lit (.int .i64 4), .lit (.int .i64 15), .lit (.int .i64 23), .lit (.int .i64 19), .lit (.int .i64 13), .lit (.int .i64 12), .lit (.int .i64 2), .lit (.int .i64 20), .lit (.int .i64 14), .lit (.int .i64 22), .lit (.int .i64 9), .lit (.int .i64 6), .lit (.int .i64 1)]
def laid_moot_keccak_turns {H : Type} : DataW H := .agg [.lit (.int .i64 1), .lit (.int .i64 3), .lit (.int .i64 6), .lit (.int .i64 10), .lit (.int .i64 15), .lit (.int .i64 21), .lit (.int .i64 28), .lit (.int .i64 36), .lit (.int .i64 45), .lit (.int .i64 55), .lit (.int .i64 2), .lit (.int .i64 14), .lit (.int .i64 27), .lit (.int .i64 41), .lit (.int .i64 56), .lit (.int .i64 8), .lit (.int .i64 25), .lit (.int .i64 43), .lit (.int .i64 62), .lit (.int .i64 18), .lit (.int .i64 39), .lit (.int .i64 61), .lit (.int .i64 20), .lit (.int .i64 44)]
def laid_errors_errorType {H : Type} : DataW H := .iface "internal/reflectlite.rtype" (.agg [.ptr (.lit (.string [101, 114, 114, 111, 114]))])

/-- 'mootlaw11.CommitOrder': WHATEVER THE INPUT: true; the input reads as it did. -/
def commitOrderSpec : ChangeSpec := { name := "commitOrder", fn := fun _ => fun
  | [d1, d2, d3] => { results := [.lit (.bool true)], args := [d1, d2, d3] }
  | _ => none }
def commitOrderRow : OpenClaim := { program := "ytfoaeafobdamcaadoor", sum := "653595b6f9d62f7634e0f798543bc9558db153413966b8d07cd9e15382f1cf77", func := "moot/mootlaw11.CommitOrder", spec := "commitOrder", unfollowed := true, recurses := true, named := ["moot/keccak.rounds", "moot/keccak.lanes", "moot/keccak.turns"], plainKeys := false, apart := false, laid := [("moot/keccak.rounds", laid_moot_keccak_rounds), ("moot/keccak.lanes", laid_moot_keccak_lanes), ("moot/keccak.turns", laid_moot_keccak_turns)] }
def CommitOrderSaid : Prop := commitOrderRow.holds Tryd.pinned (OpenSpec.ofChange commitOrderSpec)

/-- ITS FALSE NEIGHBOUR: 'it returns false'. Refute it at one input. -/
def commitOrderWrong : ChangeSpec := { name := "commitOrder", fn := fun _ => fun
  | [d1, d2, d3] => { results := [.lit (.bool false)], args := [d1, d2, d3] }
  | _ => none }
def CommitOrderWrongFalsely : Prop := commitOrderRow.holds Tryd.pinned (OpenSpec.ofChange commitOrderWrong)

/-- 'mootlaw11.CommitRoots': WHATEVER THE INPUT: true; the input reads as it did. -/
def commitRootsSpec : ChangeSpec := { name := "commitRoots", fn := fun _ => fun
  | [d1, d2, d3, d4, d5] => { results := [.lit (.bool true)], args := [d1, d2, d3, d4, d5] }
  | _ => none }
def commitRootsRow : OpenClaim := { program := "ytfoaeafobdamcaadoor", sum := "653595b6f9d62f7634e0f798543bc9558db153413966b8d07cd9e15382f1cf77", func := "moot/mootlaw11.CommitRoots", spec := "commitRoots", recurses := true, named := ["moot/keccak.rounds", "moot/keccak.lanes", "moot/keccak.turns"], plainKeys := false, apart := false, laid := [("moot/keccak.rounds", laid_moot_keccak_rounds), ("moot/keccak.lanes", laid_moot_keccak_lanes), ("moot/keccak.turns", laid_moot_keccak_turns)] }
def CommitRootsSaid : Prop := commitRootsRow.holds Tryd.pinned (OpenSpec.ofChange commitRootsSpec)

/-- ITS FALSE NEIGHBOUR: 'it returns false'. Refute it at one input. -/
def commitRootsWrong : ChangeSpec := { name := "commitRoots", fn := fun _ => fun
  | [d1, d2, d3, d4, d5] => { results := [.lit (.bool false)], args := [d1, d2, d3, d4, d5] }
  | _ => none }
def CommitRootsWrongFalsely : Prop := commitRootsRow.holds Tryd.pinned (OpenSpec.ofChange commitRootsWrong)

/-- 'mootlaw11.CommitProofs': WHATEVER THE INPUT: true; the input reads as it did. -/
def commitProofsSpec : ChangeSpec := { name := "commitProofs", fn := fun _ => fun
  | [d1, d2, d3, d4, d5] => { results := [.lit (.bool true)], args := [d1, d2, d3, d4, d5] }
  | _ => none }
def commitProofsRow : OpenClaim := { program := "ytfoaeafobdamcaadoor", sum := "653595b6f9d62f7634e0f798543bc9558db153413966b8d07cd9e15382f1cf77", func := "moot/mootlaw11.CommitProofs", spec := "commitProofs", inPlace := ["internal/reflectlite.TypeOf"], unfollowed := true, recurses := true, named := ["moot/keccak.rounds", "moot/keccak.lanes", "moot/keccak.turns"], plainKeys := false, apart := false, laid := [("moot/keccak.rounds", laid_moot_keccak_rounds), ("moot/keccak.lanes", laid_moot_keccak_lanes), ("moot/keccak.turns", laid_moot_keccak_turns)] }
def CommitProofsSaid : Prop := commitProofsRow.holds Tryd.pinned (OpenSpec.ofChange commitProofsSpec)

/-- ITS FALSE NEIGHBOUR: 'it returns false'. Refute it at one input. -/
def commitProofsWrong : ChangeSpec := { name := "commitProofs", fn := fun _ => fun
  | [d1, d2, d3, d4, d5] => { results := [.lit (.bool false)], args := [d1, d2, d3, d4, d5] }
  | _ => none }
def CommitProofsWrongFalsely : Prop := commitProofsRow.holds Tryd.pinned (OpenSpec.ofChange commitProofsWrong)

/-- 'mootlaw11.CommitNil': WHATEVER THE INPUT: true; the input reads as it did. -/
def commitNilSpec : ChangeSpec := { name := "commitNil", fn := fun _ => fun
  | [d] => { results := [.lit (.bool true)], args := [d] }
  | _ => none }
def commitNilRow : OpenClaim := { program := "ytfoaeafobdamcaadoor", sum := "653595b6f9d62f7634e0f798543bc9558db153413966b8d07cd9e15382f1cf77", func := "moot/mootlaw11.CommitNil", spec := "commitNil", inPlace := ["internal/reflectlite.TypeOf"], unfollowed := true, recurses := true, named := ["moot/keccak.rounds", "moot/keccak.lanes", "moot/keccak.turns"], plainKeys := false, apart := false, laid := [("moot/keccak.rounds", laid_moot_keccak_rounds), ("moot/keccak.lanes", laid_moot_keccak_lanes), ("moot/keccak.turns", laid_moot_keccak_turns)] }
def CommitNilSaid : Prop := commitNilRow.holds Tryd.pinned (OpenSpec.ofChange commitNilSpec)

/-- ITS FALSE NEIGHBOUR: 'it returns false'. Refute it at one input. -/
def commitNilWrong : ChangeSpec := { name := "commitNil", fn := fun _ => fun
  | [d] => { results := [.lit (.bool false)], args := [d] }
  | _ => none }
def CommitNilWrongFalsely : Prop := commitNilRow.holds Tryd.pinned (OpenSpec.ofChange commitNilWrong)

/-- 'mootlaw10.VmStores': WHATEVER THE INPUT: true; the input reads as it did. -/
def vmStoresSpec : ChangeSpec := { name := "vmStores", fn := fun _ => fun
  | [d1, d2, d3] => { results := [.lit (.bool true)], args := [d1, d2, d3] }
  | _ => none }
def vmStoresRow : OpenClaim := { program := "ytfoaeafobdamcaadoor", sum := "653595b6f9d62f7634e0f798543bc9558db153413966b8d07cd9e15382f1cf77", func := "moot/mootlaw10.VmStores", spec := "vmStores", inPlace := ["math/bits.Add64"], unfollowed := true, recurses := true, named := ["moot/keccak.rounds", "moot/keccak.lanes", "moot/keccak.turns", "math/bits.divideError", "math/bits.overflowError"], plainKeys := false, apart := false, laid := [("moot/keccak.rounds", laid_moot_keccak_rounds), ("moot/keccak.lanes", laid_moot_keccak_lanes), ("moot/keccak.turns", laid_moot_keccak_turns)] }
def VmStoresSaid : Prop := vmStoresRow.holds Tryd.pinned (OpenSpec.ofChange vmStoresSpec)

/-- ITS FALSE NEIGHBOUR: 'it returns false'. Refute it at one input. -/
def vmStoresWrong : ChangeSpec := { name := "vmStores", fn := fun _ => fun
  | [d1, d2, d3] => { results := [.lit (.bool false)], args := [d1, d2, d3] }
  | _ => none }
def VmStoresWrongFalsely : Prop := vmStoresRow.holds Tryd.pinned (OpenSpec.ofChange vmStoresWrong)

/-- 'mootlaw10.VmJumps': WHATEVER THE INPUT: true; the input reads as it did. -/
def vmJumpsSpec : ChangeSpec := { name := "vmJumps", fn := fun _ => fun
  | [d1, d2, d3, d4] => { results := [.lit (.bool true)], args := [d1, d2, d3, d4] }
  | _ => none }
def vmJumpsRow : OpenClaim := { program := "ytfoaeafobdamcaadoor", sum := "653595b6f9d62f7634e0f798543bc9558db153413966b8d07cd9e15382f1cf77", func := "moot/mootlaw10.VmJumps", spec := "vmJumps", inPlace := ["math/bits.Add64"], unfollowed := true, recurses := true, named := ["moot/keccak.rounds", "moot/keccak.lanes", "moot/keccak.turns", "math/bits.divideError", "math/bits.overflowError"], plainKeys := false, apart := false, laid := [("moot/keccak.rounds", laid_moot_keccak_rounds), ("moot/keccak.lanes", laid_moot_keccak_lanes), ("moot/keccak.turns", laid_moot_keccak_turns)] }
def VmJumpsSaid : Prop := vmJumpsRow.holds Tryd.pinned (OpenSpec.ofChange vmJumpsSpec)

/-- ITS FALSE NEIGHBOUR: 'it returns false'. Refute it at one input. -/
def vmJumpsWrong : ChangeSpec := { name := "vmJumps", fn := fun _ => fun
  | [d1, d2, d3, d4] => { results := [.lit (.bool false)], args := [d1, d2, d3, d4] }
  | _ => none }
def VmJumpsWrongFalsely : Prop := vmJumpsRow.holds Tryd.pinned (OpenSpec.ofChange vmJumpsWrong)

/-- 'mootlaw10.VmOracle': WHATEVER THE INPUT: true; the input reads as it did. -/
def vmOracleSpec : ChangeSpec := { name := "vmOracle", fn := fun _ => fun
  | [d1, d2, d3, d4] => { results := [.lit (.bool true)], args := [d1, d2, d3, d4] }
  | _ => none }
def vmOracleRow : OpenClaim := { program := "ytfoaeafobdamcaadoor", sum := "653595b6f9d62f7634e0f798543bc9558db153413966b8d07cd9e15382f1cf77", func := "moot/mootlaw10.VmOracle", spec := "vmOracle", inPlace := ["math/bits.Add64"], unfollowed := true, recurses := true, named := ["moot/keccak.rounds", "moot/keccak.lanes", "moot/keccak.turns", "math/bits.divideError", "math/bits.overflowError"], plainKeys := false, apart := false, laid := [("moot/keccak.rounds", laid_moot_keccak_rounds), ("moot/keccak.lanes", laid_moot_keccak_lanes), ("moot/keccak.turns", laid_moot_keccak_turns)] }
def VmOracleSaid : Prop := vmOracleRow.holds Tryd.pinned (OpenSpec.ofChange vmOracleSpec)

/-- ITS FALSE NEIGHBOUR: 'it returns false'. Refute it at one input. -/
def vmOracleWrong : ChangeSpec := { name := "vmOracle", fn := fun _ => fun
  | [d1, d2, d3, d4] => { results := [.lit (.bool false)], args := [d1, d2, d3, d4] }
  | _ => none }
def VmOracleWrongFalsely : Prop := vmOracleRow.holds Tryd.pinned (OpenSpec.ofChange vmOracleWrong)

/-- 'mootlaw10.VmRuns': WHATEVER THE INPUT: true; the input reads as it did. -/
def vmRunsSpec : ChangeSpec := { name := "vmRuns", fn := fun _ => fun
  | [d1, d2, d3] => { results := [.lit (.bool true)], args := [d1, d2, d3] }
  | _ => none }
def vmRunsRow : OpenClaim := { program := "ytfoaeafobdamcaadoor", sum := "653595b6f9d62f7634e0f798543bc9558db153413966b8d07cd9e15382f1cf77", func := "moot/mootlaw10.VmRuns", spec := "vmRuns", inPlace := ["math/bits.Add64", "internal/reflectlite.TypeOf"], unfollowed := true, recurses := true, named := ["moot/keccak.rounds", "moot/keccak.lanes", "moot/keccak.turns", "math/bits.divideError", "math/bits.overflowError"], plainKeys := false, apart := false, laid := [("moot/keccak.rounds", laid_moot_keccak_rounds), ("moot/keccak.lanes", laid_moot_keccak_lanes), ("moot/keccak.turns", laid_moot_keccak_turns)] }
def VmRunsSaid : Prop := vmRunsRow.holds Tryd.pinned (OpenSpec.ofChange vmRunsSpec)

/-- ITS FALSE NEIGHBOUR: 'it returns false'. Refute it at one input. -/
def vmRunsWrong : ChangeSpec := { name := "vmRuns", fn := fun _ => fun
  | [d1, d2, d3] => { results := [.lit (.bool false)], args := [d1, d2, d3] }
  | _ => none }
def VmRunsWrongFalsely : Prop := vmRunsRow.holds Tryd.pinned (OpenSpec.ofChange vmRunsWrong)

/-- 'mootlaw11.CommitRuns': WHATEVER THE INPUT: true; the input reads as it did. -/
def commitRunsSpec : ChangeSpec := { name := "commitRuns", fn := fun _ => fun
  | [d1, d2] => { results := [.lit (.bool true)], args := [d1, d2] }
  | _ => none }
def commitRunsRow : OpenClaim := { program := "ytfoaeafobdamcaadoor", sum := "653595b6f9d62f7634e0f798543bc9558db153413966b8d07cd9e15382f1cf77", func := "moot/mootlaw11.CommitRuns", spec := "commitRuns", inPlace := ["math/bits.Add64"], unfollowed := true, recurses := true, named := ["moot/keccak.rounds", "moot/keccak.lanes", "moot/keccak.turns", "math/bits.divideError", "math/bits.overflowError"], plainKeys := false, apart := false, laid := [("moot/keccak.rounds", laid_moot_keccak_rounds), ("moot/keccak.lanes", laid_moot_keccak_lanes), ("moot/keccak.turns", laid_moot_keccak_turns)] }
def CommitRunsSaid : Prop := commitRunsRow.holds Tryd.pinned (OpenSpec.ofChange commitRunsSpec)

/-- ITS FALSE NEIGHBOUR: 'it returns false'. Refute it at one input. -/
def commitRunsWrong : ChangeSpec := { name := "commitRuns", fn := fun _ => fun
  | [d1, d2] => { results := [.lit (.bool false)], args := [d1, d2] }
  | _ => none }
def CommitRunsWrongFalsely : Prop := commitRunsRow.holds Tryd.pinned (OpenSpec.ofChange commitRunsWrong)

/-- 'mootlaw10.VmCodes': WHATEVER THE INPUT: true; the input reads as it did. -/
def vmCodesSpec : ChangeSpec := { name := "vmCodes", fn := fun _ => fun
  | [d1, d2, d3, d4, d5, d6, d7] => { results := [.lit (.bool true)], args := [d1, d2, d3, d4, d5, d6, d7] }
  | _ => none }
def vmCodesRow : OpenClaim := { program := "ytfoaeafobdamcaadoor", sum := "653595b6f9d62f7634e0f798543bc9558db153413966b8d07cd9e15382f1cf77", func := "moot/mootlaw10.VmCodes", spec := "vmCodes", inPlace := ["math/bits.Add64", "internal/reflectlite.ValueOf", "(internal/reflectlite.Value).Type", "(internal/reflectlite.Value).IsNil", "internal/reflectlite.TypeOf", "(internal/reflectlite.Value).Elem", "(internal/reflectlite.Value).Set"], unfollowed := true, recurses := true, named := ["moot/keccak.rounds", "moot/keccak.lanes", "moot/keccak.turns", "math/bits.divideError", "math/bits.overflowError", "errors.errorType"], plainKeys := false, apart := false, laid := [("errors.errorType", laid_errors_errorType), ("moot/keccak.rounds", laid_moot_keccak_rounds), ("moot/keccak.lanes", laid_moot_keccak_lanes), ("moot/keccak.turns", laid_moot_keccak_turns)] }
def VmCodesSaid : Prop := vmCodesRow.holds Tryd.pinned (OpenSpec.ofChange vmCodesSpec)

/-- ITS FALSE NEIGHBOUR: 'it returns false'. Refute it at one input. -/
def vmCodesWrong : ChangeSpec := { name := "vmCodes", fn := fun _ => fun
  | [d1, d2, d3, d4, d5, d6, d7] => { results := [.lit (.bool false)], args := [d1, d2, d3, d4, d5, d6, d7] }
  | _ => none }
def VmCodesWrongFalsely : Prop := vmCodesRow.holds Tryd.pinned (OpenSpec.ofChange vmCodesWrong)

/-- 'mootlaw11.CommitSteps': WHATEVER THE INPUT: true; the input reads as it did. -/
def commitStepsSpec : ChangeSpec := { name := "commitSteps", fn := fun _ => fun
  | [d1, d2, d3] => { results := [.lit (.bool true)], args := [d1, d2, d3] }
  | _ => none }
def commitStepsRow : OpenClaim := { program := "ytfoaeafobdamcaadoor", sum := "653595b6f9d62f7634e0f798543bc9558db153413966b8d07cd9e15382f1cf77", func := "moot/mootlaw11.CommitSteps", spec := "commitSteps", inPlace := ["math/bits.Add64"], unfollowed := true, recurses := true, named := ["moot/keccak.rounds", "moot/keccak.lanes", "moot/keccak.turns", "math/bits.divideError", "math/bits.overflowError"], plainKeys := false, apart := false, laid := [("moot/keccak.rounds", laid_moot_keccak_rounds), ("moot/keccak.lanes", laid_moot_keccak_lanes), ("moot/keccak.turns", laid_moot_keccak_turns)] }
def CommitStepsSaid : Prop := commitStepsRow.holds Tryd.pinned (OpenSpec.ofChange commitStepsSpec)

/-- ITS FALSE NEIGHBOUR: 'it returns false'. Refute it at one input. -/
def commitStepsWrong : ChangeSpec := { name := "commitSteps", fn := fun _ => fun
  | [d1, d2, d3] => { results := [.lit (.bool false)], args := [d1, d2, d3] }
  | _ => none }
def CommitStepsWrongFalsely : Prop := commitStepsRow.holds Tryd.pinned (OpenSpec.ofChange commitStepsWrong)

/- THE SECOND FORM. 'bulk': how many values and letters a reading holds, each counted each time it is reached (what is shared counts as often as it is met; a slice's spare places count too). A statement '..UptoSaid' is the law's where the arguments, and the package variables that the reading takes, are together of bulk at most 1048576: NARROWER than '..Said'. Prove '..Said' where nothing that the law and all that it calls make is longer than what came in: it says more and counts as full. Else prove '..UptoSaid'. A law counts once. -/
mutual
def uptoBulk {H : Type} : DataW H → Nat
  | .lit (.string bytes) => bytes.length + 1
  | .lit _ => 1
  | .nil => 1
  | .ptr d => uptoBulk d + 1
  | .slice elems spare => uptoBulkAll elems + uptoBulkAll spare + 1
  | .agg parts => uptoBulkAll parts + 1
  | .iface _ d => uptoBulk d + 1
  | .map entries => uptoBulkEntries entries + 1
  | .held _ => 1
def uptoBulkAll {H : Type} : List (DataW H) → Nat
  | [] => 0
  | d :: r => uptoBulk d + uptoBulkAll r
def uptoBulkEntries {H : Type} : List (Lit × DataW H) → Nat
  | [] => 0
  | x :: r => uptoBulkEntry x + uptoBulkEntries r
def uptoBulkEntry {H : Type} : Lit × DataW H → Nat
  | (.string bytes, d) => bytes.length + uptoBulk d + 1
  | (_, d) => uptoBulk d + 1
 end
def uptoSmall : (H : Type) → List (DataW H) → Bool := fun _ ds => decide (uptoBulkAll ds ≤ 1048576)
def OpenSpec.upto (s : _root_.Go.ChangeSpec) : _root_.Go.OpenSpec := { _root_.Go.OpenSpec.ofChange s with cond := some uptoSmall }

/-- 'mootlaw11.CommitOrder', WHERE WHAT IT READS IS OF BULK AT MOST 1048576: true; the input reads as it did. -/
def commitOrderUptoRow : OpenClaim := { program := "ytfoaeafobdamcaadoor", sum := "653595b6f9d62f7634e0f798543bc9558db153413966b8d07cd9e15382f1cf77", func := "moot/mootlaw11.CommitOrder", spec := "commitOrder", unfollowed := true, recurses := true, named := ["moot/keccak.rounds", "moot/keccak.lanes", "moot/keccak.turns"], plainKeys := false, apart := false, laid := [("moot/keccak.rounds", laid_moot_keccak_rounds), ("moot/keccak.lanes", laid_moot_keccak_lanes), ("moot/keccak.turns", laid_moot_keccak_turns)], narrowed := true }
def CommitOrderUptoSaid : Prop := commitOrderUptoRow.holds Tryd.pinned (OpenSpec.upto commitOrderSpec)

/-- 'mootlaw11.CommitRoots', WHERE WHAT IT READS IS OF BULK AT MOST 1048576: true; the input reads as it did. -/
def commitRootsUptoRow : OpenClaim := { program := "ytfoaeafobdamcaadoor", sum := "653595b6f9d62f7634e0f798543bc9558db153413966b8d07cd9e15382f1cf77", func := "moot/mootlaw11.CommitRoots", spec := "commitRoots", recurses := true, named := ["moot/keccak.rounds", "moot/keccak.lanes", "moot/keccak.turns"], plainKeys := false, apart := false, laid := [("moot/keccak.rounds", laid_moot_keccak_rounds), ("moot/keccak.lanes", laid_moot_keccak_lanes), ("moot/keccak.turns", laid_moot_keccak_turns)], narrowed := true }
def CommitRootsUptoSaid : Prop := commitRootsUptoRow.holds Tryd.pinned (OpenSpec.upto commitRootsSpec)

/-- 'mootlaw11.CommitProofs', WHERE WHAT IT READS IS OF BULK AT MOST 1048576: true; the input reads as it did. -/
def commitProofsUptoRow : OpenClaim := { program := "ytfoaeafobdamcaadoor", sum := "653595b6f9d62f7634e0f798543bc9558db153413966b8d07cd9e15382f1cf77", func := "moot/mootlaw11.CommitProofs", spec := "commitProofs", inPlace := ["internal/reflectlite.TypeOf"], unfollowed := true, recurses := true, named := ["moot/keccak.rounds", "moot/keccak.lanes", "moot/keccak.turns"], plainKeys := false, apart := false, laid := [("moot/keccak.rounds", laid_moot_keccak_rounds), ("moot/keccak.lanes", laid_moot_keccak_lanes), ("moot/keccak.turns", laid_moot_keccak_turns)], narrowed := true }
def CommitProofsUptoSaid : Prop := commitProofsUptoRow.holds Tryd.pinned (OpenSpec.upto commitProofsSpec)

/-- 'mootlaw11.CommitNil', WHERE WHAT IT READS IS OF BULK AT MOST 1048576: true; the input reads as it did. -/
def commitNilUptoRow : OpenClaim := { program := "ytfoaeafobdamcaadoor", sum := "653595b6f9d62f7634e0f798543bc9558db153413966b8d07cd9e15382f1cf77", func := "moot/mootlaw11.CommitNil", spec := "commitNil", inPlace := ["internal/reflectlite.TypeOf"], unfollowed := true, recurses := true, named := ["moot/keccak.rounds", "moot/keccak.lanes", "moot/keccak.turns"], plainKeys := false, apart := false, laid := [("moot/keccak.rounds", laid_moot_keccak_rounds), ("moot/keccak.lanes", laid_moot_keccak_lanes), ("moot/keccak.turns", laid_moot_keccak_turns)], narrowed := true }
def CommitNilUptoSaid : Prop := commitNilUptoRow.holds Tryd.pinned (OpenSpec.upto commitNilSpec)

/-- 'mootlaw10.VmStores', WHERE WHAT IT READS IS OF BULK AT MOST 1048576: true; the input reads as it did. -/
def vmStoresUptoRow : OpenClaim := { program := "ytfoaeafobdamcaadoor", sum := "653595b6f9d62f7634e0f798543bc9558db153413966b8d07cd9e15382f1cf77", func := "moot/mootlaw10.VmStores", spec := "vmStores", inPlace := ["math/bits.Add64"], unfollowed := true, recurses := true, named := ["moot/keccak.rounds", "moot/keccak.lanes", "moot/keccak.turns", "math/bits.divideError", "math/bits.overflowError"], plainKeys := false, apart := false, laid := [("moot/keccak.rounds", laid_moot_keccak_rounds), ("moot/keccak.lanes", laid_moot_keccak_lanes), ("moot/keccak.turns", laid_moot_keccak_turns)], narrowed := true }
def VmStoresUptoSaid : Prop := vmStoresUptoRow.holds Tryd.pinned (OpenSpec.upto vmStoresSpec)

/-- 'mootlaw10.VmJumps', WHERE WHAT IT READS IS OF BULK AT MOST 1048576: true; the input reads as it did. -/
def vmJumpsUptoRow : OpenClaim := { program := "ytfoaeafobdamcaadoor", sum := "653595b6f9d62f7634e0f798543bc9558db153413966b8d07cd9e15382f1cf77", func := "moot/mootlaw10.VmJumps", spec := "vmJumps", inPlace := ["math/bits.Add64"], unfollowed := true, recurses := true, named := ["moot/keccak.rounds", "moot/keccak.lanes", "moot/keccak.turns", "math/bits.divideError", "math/bits.overflowError"], plainKeys := false, apart := false, laid := [("moot/keccak.rounds", laid_moot_keccak_rounds), ("moot/keccak.lanes", laid_moot_keccak_lanes), ("moot/keccak.turns", laid_moot_keccak_turns)], narrowed := true }
def VmJumpsUptoSaid : Prop := vmJumpsUptoRow.holds Tryd.pinned (OpenSpec.upto vmJumpsSpec)

/-- 'mootlaw10.VmOracle', WHERE WHAT IT READS IS OF BULK AT MOST 1048576: true; the input reads as it did. -/
def vmOracleUptoRow : OpenClaim := { program := "ytfoaeafobdamcaadoor", sum := "653595b6f9d62f7634e0f798543bc9558db153413966b8d07cd9e15382f1cf77", func := "moot/mootlaw10.VmOracle", spec := "vmOracle", inPlace := ["math/bits.Add64"], unfollowed := true, recurses := true, named := ["moot/keccak.rounds", "moot/keccak.lanes", "moot/keccak.turns", "math/bits.divideError", "math/bits.overflowError"], plainKeys := false, apart := false, laid := [("moot/keccak.rounds", laid_moot_keccak_rounds), ("moot/keccak.lanes", laid_moot_keccak_lanes), ("moot/keccak.turns", laid_moot_keccak_turns)], narrowed := true }
def VmOracleUptoSaid : Prop := vmOracleUptoRow.holds Tryd.pinned (OpenSpec.upto vmOracleSpec)

/-- 'mootlaw10.VmRuns', WHERE WHAT IT READS IS OF BULK AT MOST 1048576: true; the input reads as it did. -/
def vmRunsUptoRow : OpenClaim := { program := "ytfoaeafobdamcaadoor", sum := "653595b6f9d62f7634e0f798543bc9558db153413966b8d07cd9e15382f1cf77", func := "moot/mootlaw10.VmRuns", spec := "vmRuns", inPlace := ["math/bits.Add64", "internal/reflectlite.TypeOf"], unfollowed := true, recurses := true, named := ["moot/keccak.rounds", "moot/keccak.lanes", "moot/keccak.turns", "math/bits.divideError", "math/bits.overflowError"], plainKeys := false, apart := false, laid := [("moot/keccak.rounds", laid_moot_keccak_rounds), ("moot/keccak.lanes", laid_moot_keccak_lanes), ("moot/keccak.turns", laid_moot_keccak_turns)], narrowed := true }
def VmRunsUptoSaid : Prop := vmRunsUptoRow.holds Tryd.pinned (OpenSpec.upto vmRunsSpec)

/-- 'mootlaw11.CommitRuns', WHERE WHAT IT READS IS OF BULK AT MOST 1048576: true; the input reads as it did. -/
def commitRunsUptoRow : OpenClaim := { program := "ytfoaeafobdamcaadoor", sum := "653595b6f9d62f7634e0f798543bc9558db153413966b8d07cd9e15382f1cf77", func := "moot/mootlaw11.CommitRuns", spec := "commitRuns", inPlace := ["math/bits.Add64"], unfollowed := true, recurses := true, named := ["moot/keccak.rounds", "moot/keccak.lanes", "moot/keccak.turns", "math/bits.divideError", "math/bits.overflowError"], plainKeys := false, apart := false, laid := [("moot/keccak.rounds", laid_moot_keccak_rounds), ("moot/keccak.lanes", laid_moot_keccak_lanes), ("moot/keccak.turns", laid_moot_keccak_turns)], narrowed := true }
def CommitRunsUptoSaid : Prop := commitRunsUptoRow.holds Tryd.pinned (OpenSpec.upto commitRunsSpec)

/-- 'mootlaw10.VmCodes', WHERE WHAT IT READS IS OF BULK AT MOST 1048576: true; the input reads as it did. -/
def vmCodesUptoRow : OpenClaim := { program := "ytfoaeafobdamcaadoor", sum := "653595b6f9d62f7634e0f798543bc9558db153413966b8d07cd9e15382f1cf77", func := "moot/mootlaw10.VmCodes", spec := "vmCodes", inPlace := ["math/bits.Add64", "internal/reflectlite.ValueOf", "(internal/reflectlite.Value).Type", "(internal/reflectlite.Value).IsNil", "internal/reflectlite.TypeOf", "(internal/reflectlite.Value).Elem", "(internal/reflectlite.Value).Set"], unfollowed := true, recurses := true, named := ["moot/keccak.rounds", "moot/keccak.lanes", "moot/keccak.turns", "math/bits.divideError", "math/bits.overflowError", "errors.errorType"], plainKeys := false, apart := false, laid := [("errors.errorType", laid_errors_errorType), ("moot/keccak.rounds", laid_moot_keccak_rounds), ("moot/keccak.lanes", laid_moot_keccak_lanes), ("moot/keccak.turns", laid_moot_keccak_turns)], narrowed := true }
def VmCodesUptoSaid : Prop := vmCodesUptoRow.holds Tryd.pinned (OpenSpec.upto vmCodesSpec)

/-- 'mootlaw11.CommitSteps', WHERE WHAT IT READS IS OF BULK AT MOST 1048576: true; the input reads as it did. -/
def commitStepsUptoRow : OpenClaim := { program := "ytfoaeafobdamcaadoor", sum := "653595b6f9d62f7634e0f798543bc9558db153413966b8d07cd9e15382f1cf77", func := "moot/mootlaw11.CommitSteps", spec := "commitSteps", inPlace := ["math/bits.Add64"], unfollowed := true, recurses := true, named := ["moot/keccak.rounds", "moot/keccak.lanes", "moot/keccak.turns", "math/bits.divideError", "math/bits.overflowError"], plainKeys := false, apart := false, laid := [("moot/keccak.rounds", laid_moot_keccak_rounds), ("moot/keccak.lanes", laid_moot_keccak_lanes), ("moot/keccak.turns", laid_moot_keccak_turns)], narrowed := true }
def CommitStepsUptoSaid : Prop := commitStepsUptoRow.holds Tryd.pinned (OpenSpec.upto commitStepsSpec)

end Rows
end Go.Proofs.YtfoaeafobdamcaaDoor
