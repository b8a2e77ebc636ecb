/- The seat's functions are these. -/
import Derived.Test.YtdenaplelfkecaaDoorIq
import Derived.Test.YtdenaplelfkecaaDoorIsT2
import Derived.Test.YtdenaplelfkecaaDoorBr
import Derived.Test.YtdenaplelfkecaaDoorRows
import Derived.KernelRfl
set_option linter.unusedSimpArgs false
set_option linter.unusedVariables false
namespace Go.Proofs.YtdenaplelfkecaaDoor
open Go Mv
set_option maxRecDepth 200000
noncomputable def st : Seat where
  P := Tryd.prog
  φ := fun i => match i with | 0 => 0 | 1 => 1 | 2 => 2 | 15 => 3 | 16 => 4 | 17 => 5 | 19 => 6 | 23 => 7 | 24 => 8 | 26 => 9 | 49 => 50 | 50 => 166 | 51 => 52 | 52 => 175 | 53 => 174 | 54 => 24 | 55 => 51 | 59 => 81 | 62 => 54 | 63 => 19 | 68 => 21 | 70 => 49 | 71 => 56 | 73 => 17 | 74 => 20 | 76 => 128 | 79 => 71 | 84 => 10 | 85 => 11 | 86 => 12 | 87 => 13 | 88 => 14 | 89 => 15 | 90 => 16 | 94 => 18 | 96 => 22 | 97 => 23 | 98 => 25 | 101 => 26 | 102 => 27 | 103 => 28 | 104 => 29 | 105 => 30 | 106 => 31 | 108 => 32 | 109 => 33 | 167 => 165 | 179 => 34 | 181 => 55 | 197 => 47 | 198 => 168 | 199 => 76 | 200 => 75 | 201 => 176 | 202 => 105 | 205 => 62 | 206 => 86 | 207 => 80 | 208 => 109 | 210 => 45 | 211 => 46 | 212 => 41 | 213 => 48 | 214 => 70 | 215 => 72 | 216 => 73 | 217 => 74 | 218 => 40 | 219 => 42 | 220 => 94 | 226 => 35 | 227 => 36 | 228 => 37 | 229 => 38 | 230 => 39 | 238 => 43 | 239 => 44 | 241 => 53 | 244 => 57 | 245 => 58 | 259 => 136 | 276 => 167 | 277 => 117 | 287 => 59 | 306 => 82 | 307 => 83 | 308 => 103 | 311 => 66 | 312 => 126 | 315 => 69 | 316 => 104 | 317 => 107 | 318 => 108 | 319 => 64 | 320 => 65 | 321 => 95 | 322 => 96 | 323 => 97 | 324 => 98 | 325 => 99 | 326 => 100 | 327 => 101 | 328 => 102 | 329 => 63 | 330 => 67 | 335 => 60 | 336 => 61 | 341 => 68 | 346 => 77 | 347 => 78 | 348 => 79 | 364 => 169 | 367 => 84 | 368 => 85 | 405 => 110 | 406 => 111 | 407 => 112 | 408 => 113 | 409 => 114 | 410 => 115 | 413 => 90 | 414 => 91 | 415 => 92 | 417 => 127 | 418 => 87 | 419 => 88 | 420 => 89 | 421 => 123 | 422 => 124 | 423 => 125 | 447 => 93 | 448 => 106 | 458 => 116 | 459 => 129 | 460 => 130 | 461 => 118 | 462 => 134 | 463 => 133 | 483 => 119 | 484 => 120 | 485 => 121 | 486 => 122 | 492 => 131 | 493 => 135 | 514 => 132 | 516 => 137 | 517 => 138 | 518 => 139 | 537 => 140 | 538 => 141 | 539 => 142 | 540 => 143 | _ => 0
  τ := fun i => match i with | 74 => 56 | n => n
  γ := fun i => match i with | 1 => 2 | 2 => 3 | 3 => 4 | n => n
  gl := [1, 2, 3]
theorem ck16 : chkF st 16 f16 = true := by kernel_rfl
theorem ck68 : chkF st 68 f68 = true := by kernel_rfl
theorem ck73 : chkF st 73 f73 = true := by kernel_rfl
theorem ck84 : chkF st 84 f84 = true := by kernel_rfl
theorem ck85 : chkF st 85 f85 = true := by kernel_rfl
theorem ck86 : chkF st 86 f86 = true := by kernel_rfl
theorem ck87 : chkF st 87 f87 = true := by kernel_rfl
theorem ck88 : chkF st 88 f88 = true := by kernel_rfl
theorem ck89 : chkF st 89 f89 = true := by kernel_rfl
theorem ck90 : chkF st 90 f90 = true := by kernel_rfl
theorem ck94 : chkF st 94 f94 = true := by kernel_rfl
theorem ck179 : chkF st 179 f179 = true := by kernel_rfl
theorem ck197 : chkF st 197 f197 = true := by kernel_rfl
theorem ck205 : chkF st 205 f205 = true := by kernel_rfl
theorem ck206 : chkF st 206 f206 = true := by kernel_rfl
theorem ck207 : chkF st 207 f207 = true := by kernel_rfl
theorem ck212 : chkF st 212 f212 = true := by kernel_rfl
theorem ck213 : chkF st 213 f213 = true := by kernel_rfl
theorem ck215 : chkF st 215 f215 = true := by kernel_rfl
theorem ck218 : chkF st 218 f218 = true := by kernel_rfl
theorem ck219 : chkF st 219 f219 = true := by kernel_rfl
theorem ck226 : chkF st 226 f226 = true := by kernel_rfl
theorem ck227 : chkF st 227 f227 = true := by kernel_rfl
theorem ck228 : chkF st 228 f228 = true := by kernel_rfl
theorem ck229 : chkF st 229 f229 = true := by kernel_rfl
theorem ck230 : chkF st 230 f230 = true := by kernel_rfl
theorem ck238 : chkF st 238 f238 = true := by kernel_rfl
theorem ck239 : chkF st 239 f239 = true := by kernel_rfl
theorem ck259 : chkF st 259 f259 = true := by kernel_rfl
theorem ck287 : chkF st 287 f287 = true := by kernel_rfl
theorem ck311 : chkF st 311 f311 = true := by kernel_rfl
theorem ck315 : chkF st 315 f315 = true := by kernel_rfl
theorem ck317 : chkF st 317 f317 = true := by kernel_rfl
theorem ck318 : chkF st 318 f318 = true := by kernel_rfl
theorem ck319 : chkF st 319 f319 = true := by kernel_rfl
theorem ck320 : chkF st 320 f320 = true := by kernel_rfl
theorem ck321 : chkF st 321 f321 = true := by kernel_rfl
theorem ck322 : chkF st 322 f322 = true := by kernel_rfl
theorem ck323 : chkF st 323 f323 = true := by kernel_rfl
theorem ck324 : chkF st 324 f324 = true := by kernel_rfl
theorem ck325 : chkF st 325 f325 = true := by kernel_rfl
theorem ck329 : chkF st 329 f329 = true := by kernel_rfl
theorem ck330 : chkF st 330 f330 = true := by kernel_rfl
theorem ck335 : chkF st 335 f335 = true := by kernel_rfl
theorem ck336 : chkF st 336 f336 = true := by kernel_rfl
theorem ck341 : chkF st 341 f341 = true := by kernel_rfl
theorem ck367 : chkF st 367 f367 = true := by kernel_rfl
theorem ck368 : chkF st 368 f368 = true := by kernel_rfl
theorem ck413 : chkF st 413 f413 = true := by kernel_rfl
theorem ck414 : chkF st 414 f414 = true := by kernel_rfl
theorem ck415 : chkF st 415 f415 = true := by kernel_rfl
theorem ck417 : chkF st 417 f417 = true := by kernel_rfl
theorem ck418 : chkF st 418 f418 = true := by kernel_rfl
theorem ck419 : chkF st 419 f419 = true := by kernel_rfl
theorem ck420 : chkF st 420 f420 = true := by kernel_rfl
theorem ck421 : chkF st 421 f421 = true := by kernel_rfl
theorem ck423 : chkF st 423 f423 = true := by kernel_rfl
theorem ck447 : chkF st 447 f447 = true := by kernel_rfl
theorem ck458 : chkF st 458 f458 = true := by kernel_rfl
theorem ck461 : chkF st 461 f461 = true := by kernel_rfl
theorem ck462 : chkF st 462 f462 = true := by kernel_rfl
theorem ck463 : chkF st 463 f463 = true := by kernel_rfl
theorem ck483 : chkF st 483 f483 = true := by kernel_rfl
theorem ck484 : chkF st 484 f484 = true := by kernel_rfl
theorem ck485 : chkF st 485 f485 = true := by kernel_rfl
theorem ck486 : chkF st 486 f486 = true := by kernel_rfl
theorem ck492 : chkF st 492 f492 = true := by kernel_rfl
theorem okCk : OkCk st := ⟨ck179, ck287, ck367, ck368, ck458, ck492⟩
theorem okIr : OkIr st := ⟨ck238, ck239, ck341, ck447, ck483, ck484, ck485, ck486⟩
theorem okEv : OkEv st := ⟨okCk, ck94, okIr⟩
theorem okM : OkM st := ⟨ck197, ck207, ck315, ck317, ck318, ck417, ck462⟩
theorem okH : OkH st := ⟨ck319, ck418, ck419, ck420⟩
theorem okS : OkS st := ⟨okH, ck68, ck212, ck213, ck320⟩
theorem okB : OkB st := ⟨ck205, ck206, ck311, ck413, ck414, ck415, ck461⟩
theorem okR : OkR st := ⟨ck73, ck218, ck219, ck329, ck330⟩
theorem is_runs (a b : Int) : Runs st 63 [erN a, erN b] [] 0 (fun r H' k' => r = .bool (decide (a = b)) ∧ H' = [] ∧ k' = 0) := by
  intro e vs hI hD hargs
  obtain ⟨hlen, hargs⟩ := hargs
  have hτ : e.τ 74 = 56 := by exact (congrFun hI.τ 74).trans rfl
  match vs, hlen with
  | ⟨[v0, v1]⟩, _ =>
    have h0 := hargs 0
    have h1 := hargs 1
    simp [RV, RS, V.isAgg, R, hτ] at h0 h1
    rw [h0.1, h1.1]
    refine (is_errno' a b _ rfl e.w).mono ?_
    rintro en w' ⟨rfl, rfl⟩
    exact ⟨_, .bool _, e, [], 0, rfl, rfl, hI, by simp [RV, RS, V.isAgg, R], hD, Nat.le_refl _, rfl, rfl, rfl⟩
theorem okIs : OkIs st := ⟨is_runs⟩
theorem okJ : OkJ st := ⟨okEv, ck84, ck85, ck86, ck87, ck88, ck215, okM, okS, okB, okR, okIs⟩
theorem okP : OkP st := ⟨ck215, ck321, ck322, ck323, ck324, ck325, ck421, ck423, ck259, ck463⟩
theorem okX : OkX st := ⟨ck89, ck90, ck226, ck227, ck228, ck229, ck230, ck335, ck336⟩

end Go.Proofs.YtdenaplelfkecaaDoor
