/- What was put into a map is found there. -/
import Derived.Test.YtncipgmjhaiagaaDoorW1
set_option linter.unusedSimpArgs false
set_option linter.unusedVariables false
namespace Mv
open Go
theorem lkp_updL {α : Type} (k : Dg) (x : α) : ∀ l : List (Dg × α), lkp k (updL k x l) = some x
  | [] => by simp [updL, lkp]
  | (h, y) :: r => by
    by_cases e : k = h
    · simp [updL, lkp, e]
    · have := lkp_updL k x r
      simp [updL, lkp, e, this]
end Mv
