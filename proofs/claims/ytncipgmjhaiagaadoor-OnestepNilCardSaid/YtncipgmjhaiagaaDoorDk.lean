/- laid: a machine with cells, registers; the document's. -/
import Derived.Test.YtncipgmjhaiagaaDoorDh
set_option linter.unusedSimpArgs false
set_option linter.unusedVariables false
namespace Mv
open Go
set_option maxRecDepth 20000
set_option maxHeartbeats 4000000
set_option linter.unusedSimpArgs false

def laidH (f g : Nat → BitVec 64) (pc : BitVec 64) (hl : Bool) (xt : BitVec 64) (m : Nat) : Hp :=
  [(m, mach f g pc hl xt), (m + 1, refm (m + 2) (m + 3) pc hl xt), (m + 2, .ar 1 8192 (fun j => W (f j))), (m + 3, .ar 1 16 (fun j => W (g j)))]

end Mv
