/- A part of the tool. -/
import Derived.Test.YtfoaeafobdamcaaDoorCa
import Derived.Test.YtfoaeafobdamcaaDoorM
import Derived.Test.YtfoaeafobdamcaaDoorRows
import Derived.KernelRfl
set_option linter.unusedSimpArgs false
set_option linter.unusedVariables false
namespace Go.Proofs.YtfoaeafobdamcaaDoor
open Go Mv
set_option maxRecDepth 200000
noncomputable def st : Seat where
  P := Tryd.prog
  φ := fun i => match i with | 3 => 3 | 46 => 14 | 47 => 15 | 48 => 16 | 49 => 17 | 50 => 18 | 51 => 19 | 52 => 20 | 53 => 21 | 74 => 42 | 196 => 49 | 197 => 50 | 198 => 51 | 199 => 52 | 200 => 53 | 201 => 54 | 202 => 55 | 207 => 60 | 312 => 77 | 315 => 75 | 316 => 76 | 317 => 79 | 318 => 80 | 417 => 98 | 462 => 110 | _ => 0
  τ := fun i => match i with | 74 => 74 | 145 => 200 | n => n
  γ := fun i => i
  gl := [1, 2, 3]
theorem ck3 : chkF st 3 f3 = true := by kernel_rfl
theorem ck46 : chkF st 46 f46 = true := by kernel_rfl
theorem ck47 : chkF st 47 f47 = true := by kernel_rfl
theorem ck48 : chkF st 48 f48 = true := by kernel_rfl
theorem ck49 : chkF st 49 f49 = true := by kernel_rfl
theorem ck50 : chkF st 50 f50 = true := by kernel_rfl
theorem ck51 : chkF st 51 f51 = true := by kernel_rfl
theorem ck52 : chkF st 52 f52 = true := by kernel_rfl
theorem ck53 : chkF st 53 f53 = true := by kernel_rfl
theorem ck74 : chkF st 74 f74 = true := by kernel_rfl
theorem ck196 : chkF st 196 f196 = true := by kernel_rfl
theorem ck197 : chkF st 197 f197 = true := by kernel_rfl
theorem ck198 : chkF st 198 f198 = true := by kernel_rfl
theorem ck200 : chkF st 200 f200 = true := by kernel_rfl
theorem ck201 : chkF st 201 f201 = true := by kernel_rfl
theorem ck207 : chkF st 207 f207 = true := by kernel_rfl
theorem ck315 : chkF st 315 f315 = true := by kernel_rfl
theorem ck316 : chkF st 316 f316 = true := by kernel_rfl
theorem ck317 : chkF st 317 f317 = true := by kernel_rfl
theorem ck318 : chkF st 318 f318 = true := by kernel_rfl
theorem ck312 : chkF st 312 f312 = true := by kernel_rfl
theorem ck417 : chkF st 417 f417 = true := by kernel_rfl
theorem ck462 : chkF st 462 f462 = true := by kernel_rfl
theorem ck199 : chkF st 199 f199 = true := by kernel_rfl
theorem ck202 : chkF st 202 f202 = true := by kernel_rfl
theorem okA : OkA st := ⟨ck3, ck46, ck47, ck48, ck49, ck50, ck51, ck52, ck53, ck74, ck196, ck197, ck198, ck200, ck201, ck207, ck315, ck316, ck317, ck318, ck312, ck417, ck462, ck199, ck202⟩
theorem fn48 : FnOK st 48 := ⟨Tryd.f16, Tryd.func16, by kernel_rfl, by kernel_rfl⟩
end Go.Proofs.YtfoaeafobdamcaaDoor
