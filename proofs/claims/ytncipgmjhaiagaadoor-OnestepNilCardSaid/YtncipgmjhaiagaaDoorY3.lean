/- A step, in general. -/
import Derived.Test.YtncipgmjhaiagaaDoorW1
import Derived.Test.YtncipgmjhaiagaaDoorY1
import Derived.Test.YtncipgmjhaiagaaDoorY2
set_option linter.unusedSimpArgs false
set_option linter.unusedVariables false
namespace Mv
open Go
set_option maxRecDepth 20000
set_option maxHeartbeats 4000000
set_option linter.unusedSimpArgs false

set_option linter.defProp false
theorem wi_le {a n : BitVec 64} (h : wi a n = true) : a.toNat + n.toNat ≤ 8192 := by
  unfold wi at h
  simp only [Bool.and_eq_true, decide_eq_true_eq, BitVec.le_def, BitVec.toNat_sub] at h
  have e : (8192#64).toNat = 8192 := rfl
  rw [e] at h
  omega

end Mv
namespace Mv
open Go
set_option maxRecDepth 20000
set_option maxHeartbeats 4000000
set_option linter.unusedSimpArgs false

end Mv
