/- IrTooMuch. -/
import Derived.Test.YtdenaplelfkecaaDoorT
import Derived.Test.YtdenaplelfkecaaDoorW1
import Derived.Test.YtdenaplelfkecaaDoorIj
set_option linter.unusedSimpArgs false
set_option linter.unusedVariables false
namespace Mv
open Go
end Mv
namespace Mv
open Go
set_option maxRecDepth 20000
set_option maxHeartbeats 4000000
set_option linter.unusedSimpArgs false

abbrev ApT := Int → BitVec 64 → BitVec 64 → BitVec 64 → Option (BitVec 64)
end Mv
