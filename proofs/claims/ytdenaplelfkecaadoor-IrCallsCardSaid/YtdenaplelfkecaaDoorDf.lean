/- merkle: Root, Path, Fold. -/
import Derived.Test.YtdenaplelfkecaaDoorDe
set_option linter.unusedSimpArgs false
set_option linter.unusedVariables false
namespace Mv
open Go
set_option maxRecDepth 20000
set_option maxHeartbeats 4000000
set_option linter.unusedSimpArgs false

theorem ren_lvV (m : List Nat) (l : List Dg) (h : Nat) : (lvV l h).ren m = lvV l h := by
  rcases lv_cases l h with e | ⟨e, _⟩ <;> rw [e] <;> rfl
theorem tdiv2 {g : Nat} (h : g < 4611686018427387904) : IntKind.i64.wrap ((g : Int).tdiv 2) = ((g / 2 : Nat) : Int) := by
  rw [Int.tdiv_eq_ediv_of_nonneg (by omega), wrap_i64 (by omega)]; omega
end Mv
