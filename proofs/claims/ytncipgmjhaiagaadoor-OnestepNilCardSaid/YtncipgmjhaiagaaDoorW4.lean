/- Words of instructions; loading. -/
import Derived.Test.YtncipgmjhaiagaaDoorW1
import Derived.Test.YtncipgmjhaiagaaDoorW3
set_option linter.unusedSimpArgs false
set_option linter.unusedVariables false
namespace Mv
open Go
set_option maxRecDepth 20000
set_option maxHeartbeats 4000000
set_option linter.unusedSimpArgs false

structure In where
  op : Int
  d : Int
  a : Int
  b : Int
  c : Int
  n : Int
  raw : BitVec 64
instance : Inhabited In := ⟨⟨0, 0, 0, 0, 0, 0, 0#64⟩⟩
end Mv
namespace Mv
open Go
set_option maxRecDepth 20000
set_option maxHeartbeats 4000000
set_option linter.unusedSimpArgs false

structure OkW (M : Seat) : Prop extends OkI M where
  k215 : chkF M 215 f215 = true
end Mv
namespace Mv
open Go
set_option maxRecDepth 20000
set_option maxHeartbeats 4000000
set_option linter.unusedSimpArgs false

end Mv
namespace Mv
open Go
set_option maxRecDepth 20000
set_option maxHeartbeats 4000000
set_option linter.unusedSimpArgs false

/-- n, cut to 32 bits. -/
def i32 (n : Int) : Int := if n % 4294967296 ≥ 2147483648 then n % 4294967296 - 4294967296 else n % 4294967296
end Mv
