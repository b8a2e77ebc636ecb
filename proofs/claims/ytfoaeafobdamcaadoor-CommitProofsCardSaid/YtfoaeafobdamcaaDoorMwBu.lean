/- Arguments: a byte; an int with its bounds. -/
import Derived.Test.YtfoaeafobdamcaaDoorBr
set_option linter.unusedSimpArgs false
set_option linter.unusedVariables false
namespace Mv
open Go Go.RowKit Go.WideShapes Go.ChangeShapes
theorem byte_arg {H : Type} {enc : TypeId × Value → H} {M : Seat} {W : World} {t : TypeId} {v : Value} {d : DataW H} {ps : List MemPlace} (ht : M.P.underlying t = some (.int .u8))
    {base : Nat} (hok : Value.okWide M.P W .any base t v) (h : DataW.Trod enc M.P W 0 (fun _ => true) true t v d ps) : ∃ w : BitVec 8, RV (env0 M W) (Mv.B w) v := by
  obtain ⟨n, hw, hr⟩ := int_arg ht hok h
  have hb : 0 ≤ n ∧ n ≤ 255 := by simpa [Lit.wf, IntKind.min, IntKind.max, IntKind.signed, IntKind.bits] using hw
  refine ⟨BitVec.ofNat 8 n.toNat, ?_⟩
  have : V.int .u8 n = B (BitVec.ofNat 8 n.toNat) := by
    simp only [B]; congr 1; rw [BitVec.toNat_ofNat, Nat.mod_eq_of_lt (by omega)]; omega
  rw [← this]; exact hr
theorem wf_i64 {n : Int} (h : (Lit.int .i64 n).wf = true) : -9223372036854775808 ≤ n ∧ n < 9223372036854775808 := by
  have : -9223372036854775808 ≤ n ∧ n ≤ 9223372036854775807 := by simpa [Lit.wf, IntKind.min, IntKind.max, IntKind.signed, IntKind.bits] using h
  omega
end Mv
