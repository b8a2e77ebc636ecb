/- PRE in general. -/
import Derived.Test.YtncipgmjhaiagaaDoorW1
import Derived.Test.YtncipgmjhaiagaaDoorY1
set_option linter.unusedSimpArgs false
set_option linter.unusedVariables false
namespace Mv
open Go
set_option maxRecDepth 20000
set_option maxHeartbeats 4000000
set_option linter.unusedSimpArgs false

abbrev missW : BitVec 64 := 18446744073709551615#64
end Mv
namespace Mv
open Go
set_option maxRecDepth 20000
set_option maxHeartbeats 4000000
set_option linter.unusedSimpArgs false

end Mv
