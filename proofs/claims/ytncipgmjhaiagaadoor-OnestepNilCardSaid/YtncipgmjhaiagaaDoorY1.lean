/- A step that asks no store. -/
import Derived.Test.YtncipgmjhaiagaaDoorW1
import Derived.Test.YtncipgmjhaiagaaDoorX2
import Derived.Test.YtncipgmjhaiagaaDoorW5
import Derived.Test.YtncipgmjhaiagaaDoorW6
import Derived.Test.YtncipgmjhaiagaaDoorW7
set_option linter.unusedSimpArgs false
set_option linter.unusedVariables false
namespace Mv
open Go
set_option maxRecDepth 20000
set_option maxHeartbeats 4000000
set_option linter.unusedSimpArgs false

/-- Are n words from a place on in the memory? -/
def wi (a n : BitVec 64) : Bool := decide (a ≤ 8192#64) && decide (n ≤ 8192#64 - a)

end Mv
namespace Mv
open Go
set_option maxRecDepth 20000
set_option maxHeartbeats 4000000
set_option linter.unusedSimpArgs false

end Mv
namespace Mv
open Go
set_option maxRecDepth 20000
set_option maxHeartbeats 4000000
set_option linter.unusedSimpArgs false

/-- What Get comes to. -/
def getR : Option Pr → V
  | some p => tup2 (prV p) .nili
  | none => tup2 (prV Pr.zero) (.ifc 74 (.int .i64 14))

end Mv
