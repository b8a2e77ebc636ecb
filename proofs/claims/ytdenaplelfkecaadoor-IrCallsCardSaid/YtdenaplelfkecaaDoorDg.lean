/- commit: leaf, leaves. -/
import Derived.Test.YtdenaplelfkecaaDoorDf
import Derived.Test.YtdenaplelfkecaaDoorU
set_option linter.unusedSimpArgs false
set_option linter.unusedVariables false
namespace Mv
open Go
set_option maxRecDepth 20000
set_option maxHeartbeats 4000000
set_option linter.unusedSimpArgs false

/-- A machine. -/
def mach (f g : Nat → BitVec 64) (pc : BitVec 64) (hl : Bool) (ex : BitVec 64) : V :=
  .st 8211 (.fcons 0 (.ar 1 8192 (fun j => W (f j))) (.fcons 8192 (.ar 1 16 (fun j => W (g j))) (.fcons 8208 (W pc) (.fcons 8209 (.bool hl) (.fcons 8210 (W ex) .fnil)))))

end Mv
