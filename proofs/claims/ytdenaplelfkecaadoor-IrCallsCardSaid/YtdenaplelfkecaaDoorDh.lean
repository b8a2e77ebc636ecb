/- commit: Root, Prove. -/
import Derived.Test.YtdenaplelfkecaaDoorDg
set_option linter.unusedSimpArgs false
set_option linter.unusedVariables false
namespace Mv
open Go
set_option maxRecDepth 20000
set_option maxHeartbeats 4000000
set_option linter.unusedSimpArgs false

end Mv
namespace Mv
open Go
set_option maxRecDepth 20000
set_option maxHeartbeats 4000000
set_option linter.unusedSimpArgs false

theorem eqP_nn (ts : List Nat) : veqP true (.iface ts) .nili .nili = True := by simp [veqP]
theorem eqV_nn (ts : List Nat) : veqV (.iface ts) .nili .nili = true := rfl
theorem eqP_in (c : Bool) (ts : List Nat) (t : Nat) (v : V) : veqP c (.iface ts) (.ifc t v) .nili = True := by simp [veqP]
theorem eqV_in (ts : List Nat) (t : Nat) (v : V) : veqV (.iface ts) (.ifc t v) .nili = false := by cases v <;> rfl
theorem eqP_pn (c : Bool) (i : Nat) (p : List Stp) : veqP c .ptr (.ptr i p) .nilp = True := by simp [veqP]
theorem eqV_pn (i : Nat) (p : List Stp) : veqV .ptr (.ptr i p) .nilp = false := rfl
theorem eqP_mn (c : Bool) (v : V) : veqP c .ptr (.imm v) .nilp = True := by simp [veqP]
theorem eqV_mn (v : V) : veqV .ptr (.imm v) .nilp = false := rfl

end Mv
namespace Mv
open Go
set_option maxRecDepth 20000
set_option maxHeartbeats 4000000
set_option linter.unusedSimpArgs false

/-- The document's machine; its blocks. -/
def refm (m r : Nat) (pc : BitVec 64) (hl : Bool) (ex : BitVec 64) : V :=
  .st 5 (.fcons 0 (.sl m [] 0 8192 1) (.fcons 1 (.sl r [] 0 16 1) (.fcons 2 (W pc) (.fcons 3 (.bool hl) (.fcons 4 (W ex) .fnil)))))

end Mv
