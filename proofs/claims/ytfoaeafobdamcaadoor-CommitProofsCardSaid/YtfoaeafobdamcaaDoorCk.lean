/- The seat's functions are these. -/
import Derived.Test.YtfoaeafobdamcaaDoorCa
import Derived.Test.YtfoaeafobdamcaaDoorCc
import Derived.Test.YtfoaeafobdamcaaDoorCe
import Derived.Test.YtfoaeafobdamcaaDoorBr
import Derived.Test.YtfoaeafobdamcaaDoorIs
import Derived.Test.YtfoaeafobdamcaaDoorRows
import Derived.KernelRfl
set_option linter.unusedSimpArgs false
set_option linter.unusedVariables false
namespace Go.Proofs.YtfoaeafobdamcaaDoor
open Go Mv
set_option maxRecDepth 200000
noncomputable def st : Seat where
  P := Tryd.prog
  φ := fun i => match i with | 3 => 3 | 4 => 4 | 5 => 5 | 6 => 6 | 46 => 14 | 47 => 15 | 48 => 16 | 49 => 17 | 50 => 18 | 51 => 19 | 52 => 20 | 53 => 21 | 54 => 22 | 55 => 23 | 56 => 24 | 57 => 25 | 58 => 26 | 59 => 27 | 60 => 28 | 61 => 29 | 62 => 30 | 63 => 31 | 64 => 32 | 65 => 33 | 66 => 34 | 74 => 42 | 196 => 49 | 197 => 50 | 198 => 51 | 199 => 52 | 200 => 53 | 201 => 54 | 202 => 55 | 203 => 56 | 204 => 57 | 205 => 58 | 206 => 59 | 207 => 60 | 208 => 61 | 209 => 62 | 311 => 78 | 312 => 77 | 315 => 75 | 316 => 76 | 317 => 79 | 318 => 80 | 413 => 95 | 414 => 96 | 415 => 97 | 417 => 98 | 461 => 109 | 462 => 110 | _ => 0
  τ := fun i => match i with | 74 => 74 | 145 => 200 | n => n
  γ := fun i => i
  gl := [1, 2, 3]
theorem ck3 : chkF st 3 f3 = true := by kernel_rfl
theorem ck4 : chkF st 4 f4 = true := by kernel_rfl
theorem ck5 : chkF st 5 f5 = true := by kernel_rfl
theorem ck6 : chkF st 6 f6 = true := by kernel_rfl
theorem ck46 : chkF st 46 f46 = true := by kernel_rfl
theorem ck47 : chkF st 47 f47 = true := by kernel_rfl
theorem ck48 : chkF st 48 f48 = true := by kernel_rfl
theorem ck49 : chkF st 49 f49 = true := by kernel_rfl
theorem ck50 : chkF st 50 f50 = true := by kernel_rfl
theorem ck51 : chkF st 51 f51 = true := by kernel_rfl
theorem ck52 : chkF st 52 f52 = true := by kernel_rfl
theorem ck53 : chkF st 53 f53 = true := by kernel_rfl
theorem ck54 : chkF st 54 f54 = true := by kernel_rfl
theorem ck55 : chkF st 55 f55 = true := by kernel_rfl
theorem ck56 : chkF st 56 f56 = true := by kernel_rfl
theorem ck57 : chkF st 57 f57 = true := by kernel_rfl
theorem ck58 : chkF st 58 f58 = true := by kernel_rfl
theorem ck59 : chkF st 59 f59 = true := by kernel_rfl
theorem ck60 : chkF st 60 f60 = true := by kernel_rfl
theorem ck61 : chkF st 61 f61 = true := by kernel_rfl
theorem ck62 : chkF st 62 f62 = true := by kernel_rfl
theorem ck64 : chkF st 64 f64 = true := by kernel_rfl
theorem ck65 : chkF st 65 f65 = true := by kernel_rfl
theorem ck66 : chkF st 66 f66 = true := by kernel_rfl
theorem ck74 : chkF st 74 f74 = true := by kernel_rfl
theorem ck196 : chkF st 196 f196 = true := by kernel_rfl
theorem ck197 : chkF st 197 f197 = true := by kernel_rfl
theorem ck198 : chkF st 198 f198 = true := by kernel_rfl
theorem ck199 : chkF st 199 f199 = true := by kernel_rfl
theorem ck200 : chkF st 200 f200 = true := by kernel_rfl
theorem ck201 : chkF st 201 f201 = true := by kernel_rfl
theorem ck202 : chkF st 202 f202 = true := by kernel_rfl
theorem ck203 : chkF st 203 f203 = true := by kernel_rfl
theorem ck204 : chkF st 204 f204 = true := by kernel_rfl
theorem ck205 : chkF st 205 f205 = true := by kernel_rfl
theorem ck206 : chkF st 206 f206 = true := by kernel_rfl
theorem ck207 : chkF st 207 f207 = true := by kernel_rfl
theorem ck208 : chkF st 208 f208 = true := by kernel_rfl
theorem ck209 : chkF st 209 f209 = true := by kernel_rfl
theorem ck311 : chkF st 311 f311 = true := by kernel_rfl
theorem ck312 : chkF st 312 f312 = true := by kernel_rfl
theorem ck315 : chkF st 315 f315 = true := by kernel_rfl
theorem ck316 : chkF st 316 f316 = true := by kernel_rfl
theorem ck317 : chkF st 317 f317 = true := by kernel_rfl
theorem ck318 : chkF st 318 f318 = true := by kernel_rfl
theorem ck413 : chkF st 413 f413 = true := by kernel_rfl
theorem ck414 : chkF st 414 f414 = true := by kernel_rfl
theorem ck415 : chkF st 415 f415 = true := by kernel_rfl
theorem ck417 : chkF st 417 f417 = true := by kernel_rfl
theorem ck461 : chkF st 461 f461 = true := by kernel_rfl
theorem ck462 : chkF st 462 f462 = true := by kernel_rfl
theorem okA : OkA st := ⟨ck3, ck46, ck47, ck48, ck49, ck50, ck51, ck52, ck53, ck74, ck196, ck197, ck198, ck200, ck201, ck207, ck315, ck316, ck317, ck318, ck312, ck417, ck462, ck199, ck202⟩
theorem okB : OkB st := ⟨ck4, ck54, ck55, ck59, ck62, ck208, ck56, ck57, ck58, ck60, ck61, ck203, ck204, ck205, ck206, ck209, ck311, ck413, ck414, ck415, ck461, ck64, ck65, ck66, ck5⟩
theorem is_runs (a b : Int) : Runs st 63 [errV a, errV b] [] 0 (fun r H' k' => r = .bool (decide (a = b)) ∧ H' = [] ∧ k' = 0) := by
  intro e vs hI hD hargs
  obtain ⟨hlen, hargs⟩ := hargs
  have hτ : e.τ 74 = 74 := by rw [hI.τ]; rfl
  match vs, hlen with
  | ⟨[v0, v1]⟩, _ =>
    have h0 := hargs 0
    have h1 := hargs 1
    simp [errV, RV, RS, V.isAgg, R, hτ] at h0 h1
    rw [h0.1, h1.1]
    refine (is_errno' a b _ rfl e.w).mono ?_
    rintro en w' ⟨rfl, rfl⟩
    exact ⟨_, .bool _, e, [], 0, rfl, rfl, hI, by simp [RV, RS, V.isAgg, R], hD, Nat.le_refl _, rfl, rfl, rfl⟩

theorem okC : OkC st := ⟨ck5, ck6, is_runs⟩
theorem fn48 : FnOK st 48 := ⟨Tryd.f16, Tryd.func16, by kernel_rfl, by kernel_rfl⟩
end Go.Proofs.YtfoaeafobdamcaaDoor
