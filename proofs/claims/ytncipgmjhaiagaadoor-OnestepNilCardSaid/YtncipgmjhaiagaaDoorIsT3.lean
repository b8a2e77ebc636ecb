/- errors.Is of two errors of the program's: whether they are the same. -/
import Derived.Test.YtncipgmjhaiagaaDoorChecked
import Derived.WalkKit
import Derived.LaidEql
import Derived.Stop.Asserts
import Derived.RowKitTokens
set_option linter.unusedSimpArgs false
set_option linter.unusedVariables false
namespace Go.Proofs.YtncipgmjhaiagaaDoor
open Go Go.RowKit Go.Extern.Stop Go.Stop Go.Extern
set_option maxRecDepth 100000

theorem isTypeOf (v : Value) (w : World) : (Extern.ReflectliteType.typeOf #[.iface 49 v]).run Tryd.prog w = .ok (.iface 142 (.agg #[.pointer (some ⟨5, 49, none⟩)])) w := by kernel_rfl
/-- What the model has for Comparable. -/
def cmpM : Array Value → Sem Value := Extern.ReflectliteType.method fun t => do Extern.Rtype.noPackHeld "Comparable" t; pure (.bool (← typeInfo t).comparable)
theorem isComparable (w : World) : (cmpM #[.agg #[.pointer (some ⟨5, 49, none⟩)]]).run Tryd.prog w = .ok (.bool true) w := by kernel_rfl
theorem isMethod (v : Value) (w : World) : (Go.method 367 142 v "Comparable").run Tryd.prog w = .ok (148, v) w := by kernel_rfl
theorem noIs (v : Value) (xT : TypeId) (w : World) : (Instr.typeAssert (.iface 49 v) xT 144 true).run Tryd.prog w = .ok (.tuple #[.nilIface, .bool false]) w := run_typeAssert_lacksB Tryd.underlying144 (by kernel_rfl) (by kernel_rfl) v xT w
theorem noUnwrap (v : Value) (xT : TypeId) (w : World) : (Instr.typeAssert (.iface 49 v) xT 147 true).run Tryd.prog w = .ok (.tuple #[.nilIface, .bool false]) w := run_typeAssert_lacksB Tryd.underlying147 (by kernel_rfl) (by kernel_rfl) v xT w
theorem noUnwraps (v : Value) (xT : TypeId) (w : World) : (Instr.typeAssert (.iface 49 v) xT 149 true).run Tryd.prog w = .ok (.tuple #[.nilIface, .bool false]) w := run_typeAssert_lacksB Tryd.underlying149 (by kernel_rfl) (by kernel_rfl) v xT w
theorem isComp : (Tryd.prog.info? 49).map (·.comparable) = some true := by kernel_rfl

theorem eql_errno (a b : Int) (w : World) : (binOp .eql 25 (.iface 49 (.int .i64 a)) (.iface 49 (.int .i64 b))).run Tryd.prog w = .ok (.bool (decide (a = b))) w := by
  obtain ⟨i, hi, hcmp⟩ := Option.map_eq_some_iff.1 isComp
  have h1 : ∀ d : Nat, (Op.equalIn (d + 1) 49 (.int .i64 a) (.int .i64 b)).run Tryd.prog w = .ok (decide (a = b)) w := fun d => by
    simp only [Op.equalIn, Sem.run_bind, run_underlying Tryd.underlying49, Result.andThen_ok, if_true, Sem.run_pure]
    congr 1
  have h : ∀ d : Nat, (Op.equalIn (d + 2) 25 (.iface 49 (.int .i64 a)) (.iface 49 (.int .i64 b))).run Tryd.prog w = .ok (decide (a = b)) w := fun d => by
    have := h1 d
    simp [Op.equalIn, run_underlying Tryd.underlying25, typeInfo, hi, hcmp] at this ⊢
    exact this
  simp only [binOp]
  simp [Op.equal, Op.maxDepth, h 9998]

theorem is_errno' (a b : Int) (c : Bool) (hc : decide (a = b) = c) (w : World) :
    Calls Tryd.prog 12 #[.iface 49 (.int .i64 a), .iface 49 (.int .i64 b)] w fun e w' => e = .returned (.bool c) ∧ w' = w := by
  have h8 := @run_callFunc_extern Tryd.prog 32 _ Extern.ReflectliteType.typeOf Tryd.func32 (by kernel_rfl) (by kernel_rfl) (by kernel_rfl) (by kernel_rfl)
  have h32 := @run_callFunc_extern Tryd.prog 148 _ cmpM Tryd.func148 (by kernel_rfl) (by kernel_rfl) (by kernel_rfl) (by kernel_rfl)
  have tT := isTypeOf
  have cT := isComparable
  have mR := isMethod
  have nE := noIs
  have uE := noUnwrap
  have vE := noUnwraps
  have heq := eql_errno a b w
  rw [hc] at heq
  clear hc
  cases c
  · go_enter Tryd.func12, Tryd.ntmps12
    go_wp2
    refine wp_loop_rounds 1 ?_
    rw [rounds_succ]
    go_wp2
    go_ret
    exact ⟨rfl, rfl⟩
  · go_enter Tryd.func12, Tryd.ntmps12
    go_wp2
    refine wp_loop_rounds 1 ?_
    rw [rounds_succ]
    go_wp2
    go_ret
    exact ⟨rfl, rfl⟩
end Go.Proofs.YtncipgmjhaiagaaDoor
