/- The seat's functions are these. -/
import Derived.Test.YtncipgmjhaiagaaDoorKC
import Derived.Test.YtncipgmjhaiagaaDoorKB
import Derived.Test.YtncipgmjhaiagaaDoorIsT3
import Derived.Test.YtncipgmjhaiagaaDoorBr
import Derived.Test.YtncipgmjhaiagaaDoorRows
import Derived.KernelRfl
set_option linter.unusedSimpArgs false
set_option linter.unusedVariables false
namespace Go.Proofs.YtncipgmjhaiagaaDoor
open Go Mv
set_option maxRecDepth 200000
noncomputable def st : Seat where
  P := Tryd.prog
  φ := fun i => match i with | 0 => 0 | 1 => 1 | 2 => 2 | 23 => 3 | 24 => 4 | 26 => 5 | 49 => 27 | 50 => 134 | 51 => 29 | 52 => 143 | 53 => 142 | 54 => 10 | 55 => 28 | 59 => 57 | 62 => 31 | 63 => 12 | 68 => 7 | 70 => 26 | 71 => 40 | 74 => 6 | 76 => 97 | 79 => 47 | 89 => 15 | 90 => 18 | 96 => 8 | 97 => 9 | 98 => 11 | 101 => 13 | 102 => 14 | 103 => 16 | 104 => 17 | 105 => 19 | 106 => 20 | 108 => 21 | 109 => 22 | 167 => 133 | 179 => 60 | 181 => 39 | 197 => 23 | 198 => 136 | 199 => 52 | 200 => 51 | 201 => 144 | 202 => 77 | 207 => 56 | 208 => 81 | 210 => 32 | 211 => 33 | 212 => 24 | 213 => 25 | 214 => 46 | 215 => 48 | 216 => 49 | 217 => 50 | 220 => 66 | 226 => 34 | 227 => 35 | 228 => 36 | 229 => 37 | 230 => 38 | 241 => 30 | 244 => 41 | 245 => 42 | 259 => 104 | 276 => 135 | 277 => 89 | 287 => 82 | 306 => 61 | 307 => 62 | 308 => 75 | 312 => 93 | 315 => 43 | 316 => 76 | 317 => 79 | 318 => 80 | 319 => 44 | 320 => 45 | 321 => 67 | 322 => 68 | 323 => 69 | 324 => 70 | 325 => 71 | 326 => 72 | 327 => 73 | 328 => 74 | 335 => 58 | 336 => 59 | 346 => 53 | 347 => 54 | 348 => 55 | 364 => 137 | 367 => 95 | 368 => 96 | 405 => 83 | 406 => 84 | 407 => 85 | 408 => 86 | 409 => 87 | 410 => 88 | 417 => 94 | 418 => 63 | 419 => 64 | 420 => 65 | 421 => 90 | 422 => 91 | 423 => 92 | 448 => 78 | 458 => 102 | 459 => 98 | 460 => 99 | 462 => 101 | 463 => 100 | 492 => 105 | 493 => 103 | 516 => 106 | 517 => 107 | 518 => 108 | 537 => 109 | 538 => 110 | 539 => 111 | 540 => 112 | 595 => 130 | 596 => 131 | 597 => 132 | 598 => 138 | 599 => 139 | 600 => 140 | 601 => 141 | _ => 0
  τ := fun i => match i with | 74 => 49 | 362 => 79 | 422 => 91 | 426 => 99 | n => n
  γ := fun i => match i with | 1 => 2 | 2 => 3 | 3 => 4 | n => n
  gl := [1, 2, 3]
theorem ck23 : chkF st 23 f23 = true := by kernel_rfl
theorem ck49 : chkF st 49 f49 = true := by kernel_rfl
theorem ck50 : chkF st 50 f50 = true := by kernel_rfl
theorem ck51 : chkF st 51 f51 = true := by kernel_rfl
theorem ck52 : chkF st 52 f52 = true := by kernel_rfl
theorem ck53 : chkF st 53 f53 = true := by kernel_rfl
theorem ck54 : chkF st 54 f54 = true := by kernel_rfl
theorem ck55 : chkF st 55 f55 = true := by kernel_rfl
theorem ck59 : chkF st 59 f59 = true := by kernel_rfl
theorem ck62 : chkF st 62 f62 = true := by kernel_rfl
theorem ck68 : chkF st 68 f68 = true := by kernel_rfl
theorem ck70 : chkF st 70 f70 = true := by kernel_rfl
theorem ck74 : chkF st 74 f74 = true := by kernel_rfl
theorem ck79 : chkF st 79 f79 = true := by kernel_rfl
theorem ck96 : chkF st 96 f96 = true := by kernel_rfl
theorem ck97 : chkF st 97 f97 = true := by kernel_rfl
theorem ck98 : chkF st 98 f98 = true := by kernel_rfl
theorem ck167 : chkF st 167 f167 = true := by kernel_rfl
theorem ck197 : chkF st 197 f197 = true := by kernel_rfl
theorem ck198 : chkF st 198 f198 = true := by kernel_rfl
theorem ck199 : chkF st 199 f199 = true := by kernel_rfl
theorem ck200 : chkF st 200 f200 = true := by kernel_rfl
theorem ck201 : chkF st 201 f201 = true := by kernel_rfl
theorem ck202 : chkF st 202 f202 = true := by kernel_rfl
theorem ck207 : chkF st 207 f207 = true := by kernel_rfl
theorem ck208 : chkF st 208 f208 = true := by kernel_rfl
theorem ck212 : chkF st 212 f212 = true := by kernel_rfl
theorem ck213 : chkF st 213 f213 = true := by kernel_rfl
theorem ck214 : chkF st 214 f214 = true := by kernel_rfl
theorem ck215 : chkF st 215 f215 = true := by kernel_rfl
theorem ck220 : chkF st 220 f220 = true := by kernel_rfl
theorem ck241 : chkF st 241 f241 = true := by kernel_rfl
theorem ck259 : chkF st 259 f259 = true := by kernel_rfl
theorem ck276 : chkF st 276 f276 = true := by kernel_rfl
theorem ck308 : chkF st 308 f308 = true := by kernel_rfl
theorem ck312 : chkF st 312 f312 = true := by kernel_rfl
theorem ck315 : chkF st 315 f315 = true := by kernel_rfl
theorem ck316 : chkF st 316 f316 = true := by kernel_rfl
theorem ck317 : chkF st 317 f317 = true := by kernel_rfl
theorem ck318 : chkF st 318 f318 = true := by kernel_rfl
theorem ck319 : chkF st 319 f319 = true := by kernel_rfl
theorem ck320 : chkF st 320 f320 = true := by kernel_rfl
theorem ck321 : chkF st 321 f321 = true := by kernel_rfl
theorem ck322 : chkF st 322 f322 = true := by kernel_rfl
theorem ck323 : chkF st 323 f323 = true := by kernel_rfl
theorem ck324 : chkF st 324 f324 = true := by kernel_rfl
theorem ck325 : chkF st 325 f325 = true := by kernel_rfl
theorem ck327 : chkF st 327 f327 = true := by kernel_rfl
theorem ck328 : chkF st 328 f328 = true := by kernel_rfl
theorem ck346 : chkF st 346 f346 = true := by kernel_rfl
theorem ck347 : chkF st 347 f347 = true := by kernel_rfl
theorem ck348 : chkF st 348 f348 = true := by kernel_rfl
theorem ck417 : chkF st 417 f417 = true := by kernel_rfl
theorem ck418 : chkF st 418 f418 = true := by kernel_rfl
theorem ck419 : chkF st 419 f419 = true := by kernel_rfl
theorem ck420 : chkF st 420 f420 = true := by kernel_rfl
theorem ck421 : chkF st 421 f421 = true := by kernel_rfl
theorem ck423 : chkF st 423 f423 = true := by kernel_rfl
theorem ck448 : chkF st 448 f448 = true := by kernel_rfl
theorem ck462 : chkF st 462 f462 = true := by kernel_rfl
theorem ck463 : chkF st 463 f463 = true := by kernel_rfl
theorem ck595 : chkF st 595 f595 = true := by kernel_rfl
theorem ck596 : chkF st 596 f596 = true := by kernel_rfl
theorem ck597 : chkF st 597 f597 = true := by kernel_rfl
theorem ck598 : chkF st 598 f598 = true := by kernel_rfl
theorem ck599 : chkF st 599 f599 = true := by kernel_rfl
theorem ck600 : chkF st 600 f600 = true := by kernel_rfl
theorem ck601 : chkF st 601 f601 = true := by kernel_rfl
theorem fn220 : FnOK st 220 := ⟨by decide, Tryd.f66, Tryd.func66, by kernel_rfl, by kernel_rfl⟩
theorem mth426_0 : MethOK st 426 0 599 := ⟨⟨by decide, Tryd.f139, Tryd.func139, by kernel_rfl, by kernel_rfl⟩, fun v w => by kernel_rfl⟩
theorem mth426_1 : MethOK st 426 1 600 := ⟨⟨by decide, Tryd.f140, Tryd.func140, by kernel_rfl, by kernel_rfl⟩, fun v w => by kernel_rfl⟩
theorem mth426_2 : MethOK st 426 2 598 := ⟨⟨by decide, Tryd.f138, Tryd.func138, by kernel_rfl, by kernel_rfl⟩, fun v w => by kernel_rfl⟩
theorem mth422_0 : MethOK st 422 0 596 := ⟨⟨by decide, Tryd.f131, Tryd.func131, by kernel_rfl, by kernel_rfl⟩, fun v w => by kernel_rfl⟩
theorem mth422_1 : MethOK st 422 1 597 := ⟨⟨by decide, Tryd.f132, Tryd.func132, by kernel_rfl, by kernel_rfl⟩, fun v w => by kernel_rfl⟩
theorem mth422_2 : MethOK st 422 2 595 := ⟨⟨by decide, Tryd.f130, Tryd.func130, by kernel_rfl, by kernel_rfl⟩, fun v w => by kernel_rfl⟩
theorem okM : OkM st := ⟨ck49, ck50, ck51, ck52, ck53, ck74, ck197, ck198, ck200, ck201, ck207, ck315, ck316, ck317, ck318, ck312, ck417, ck462, ck199, ck202⟩
theorem okH : OkH st := ⟨ck319, ck418, ck419, ck420⟩
theorem okS : OkS st := ⟨okH, ck68, ck212, ck213, ck320, ck328⟩
theorem okV : OkV st := ⟨okS, ck70, ck79, ck214, ck220, fn220⟩
theorem okI : OkI st := ⟨okV⟩
theorem okW : OkW st := ⟨okI, ck215⟩
theorem okO : OkO st := ⟨okW, ck308, ck327⟩
theorem okP : OkP st := ⟨ck215, ck321, ck322, ck323, ck324, ck325, ck421, ck423, ck259, ck463⟩
theorem okNx : OkNx st := ⟨ck241, ck346, ck347, ck348, ck448⟩
theorem okQ : OkQ st := ⟨okM, okO, okP, okNx⟩
theorem okD : OkD st := ⟨ck54, ck55, ck59, ck62, ck208⟩
theorem okCk : OkCk st := ⟨ck598, ck599, ck600, ck601, mth426_0, mth426_1, mth426_2⟩
theorem okPr : OkPr st := ⟨ck167, ck276, ck595, ck596, ck597, mth422_0, mth422_1, mth422_2⟩
theorem okOs : OkOs st := ⟨okQ, okD, okCk, okPr, ck97, ck98⟩
theorem okF15 : OkF15 st := ⟨okOs, ck96⟩
theorem is_runs (a b : Int) : Runs st 63 [.ifc 74 (.int .i64 a), .ifc 74 (.int .i64 b)] [] 0 (fun r H' k' => r = .bool (decide (a = b)) ∧ H' = [] ∧ k' = 0) := by
  intro e vs hI hD hargs
  obtain ⟨hlen, hargs⟩ := hargs
  have hτ : e.τ 74 = 49 := by exact (congrFun hI.τ 74).trans rfl
  match vs, hlen with
  | ⟨[v0, v1]⟩, _ =>
    have h0 := hargs 0
    have h1 := hargs 1
    simp [RV, RS, V.isAgg, R, hτ] at h0 h1
    rw [h0.1, h1.1]
    refine (is_errno' a b _ rfl e.w).mono ?_
    rintro en w' ⟨rfl, rfl⟩
    exact ⟨_, .bool _, e, [], 0, rfl, rfl, hI, by simp [RV, RS, V.isAgg, R], hD, Nat.le_refl _, rfl, rfl, rfl⟩
theorem okONil : OkONil st := ⟨okF15, ck23, is_runs⟩

end Go.Proofs.YtncipgmjhaiagaaDoor
