/- The seat's functions are these. -/
import Derived.Test.YtfoaeafobdamcaaDoorMwNc
import Derived.Test.YtfoaeafobdamcaaDoorMwBy
import Derived.Test.YtfoaeafobdamcaaDoorAsT
import Derived.Test.YtfoaeafobdamcaaDoorBr
import Derived.Test.YtfoaeafobdamcaaDoorRows
import Derived.KernelRfl
set_option linter.unusedSimpArgs false
set_option linter.unusedVariables false
namespace Go.Proofs.YtfoaeafobdamcaaDoor
open Go Mv
set_option maxRecDepth 200000
noncomputable def st : Seat where
  P := Tryd.prog
  φ := fun i => match i with | 0 => 0 | 1 => 1 | 2 => 2 | 3 => 3 | 4 => 4 | 5 => 5 | 6 => 6 | 7 => 7 | 8 => 8 | 9 => 9 | 10 => 10 | 11 => 11 | 12 => 12 | 14 => 13 | 46 => 14 | 47 => 15 | 48 => 16 | 49 => 17 | 50 => 18 | 51 => 19 | 52 => 20 | 53 => 21 | 54 => 22 | 55 => 23 | 56 => 24 | 57 => 25 | 58 => 26 | 59 => 27 | 60 => 28 | 61 => 29 | 62 => 30 | 63 => 31 | 64 => 32 | 65 => 33 | 66 => 34 | 67 => 35 | 68 => 36 | 69 => 37 | 70 => 38 | 71 => 39 | 72 => 40 | 73 => 41 | 74 => 42 | 75 => 43 | 76 => 44 | 77 => 45 | 78 => 46 | 79 => 47 | 80 => 48 | 93 => 94 | 140 => 74 | 196 => 49 | 197 => 50 | 198 => 51 | 199 => 52 | 200 => 53 | 201 => 54 | 202 => 55 | 203 => 56 | 204 => 57 | 205 => 58 | 206 => 59 | 207 => 60 | 208 => 61 | 209 => 62 | 210 => 63 | 211 => 64 | 212 => 65 | 213 => 66 | 214 => 67 | 215 => 68 | 216 => 69 | 217 => 70 | 218 => 71 | 219 => 72 | 220 => 73 | 234 => 105 | 235 => 106 | 236 => 107 | 237 => 108 | 259 => 115 | 277 => 111 | 308 => 91 | 311 => 78 | 312 => 77 | 315 => 75 | 316 => 76 | 317 => 79 | 318 => 80 | 319 => 81 | 320 => 82 | 321 => 83 | 322 => 84 | 323 => 85 | 324 => 86 | 325 => 87 | 326 => 88 | 327 => 89 | 328 => 90 | 329 => 92 | 330 => 93 | 339 => 113 | 340 => 114 | 413 => 95 | 414 => 96 | 415 => 97 | 417 => 98 | 418 => 99 | 419 => 100 | 420 => 101 | 421 => 102 | 422 => 103 | 423 => 104 | 461 => 109 | 462 => 110 | 463 => 112 | _ => 0
  τ := fun i => match i with | 74 => 74 | 145 => 200 | 394 => 199 | 147 => 201 | n => n
  γ := fun i => match i with | 1 => 1 | 2 => 2 | 3 => 3 | n => n
  gl := [1, 2, 3]
  raw := [(0, .iface 174 (.agg #[.pointer (some ⟨6, 37, none⟩)]))]
theorem ck12 : chkF st 12 f12 = true := by kernel_rfl
theorem ck46 : chkF st 46 f46 = true := by kernel_rfl
theorem ck47 : chkF st 47 f47 = true := by kernel_rfl
theorem ck49 : chkF st 49 f49 = true := by kernel_rfl
theorem ck50 : chkF st 50 f50 = true := by kernel_rfl
theorem ck51 : chkF st 51 f51 = true := by kernel_rfl
theorem ck52 : chkF st 52 f52 = true := by kernel_rfl
theorem ck53 : chkF st 53 f53 = true := by kernel_rfl
theorem ck67 : chkF st 67 f67 = true := by kernel_rfl
theorem ck68 : chkF st 68 f68 = true := by kernel_rfl
theorem ck69 : chkF st 69 f69 = true := by kernel_rfl
theorem ck70 : chkF st 70 f70 = true := by kernel_rfl
theorem ck71 : chkF st 71 f71 = true := by kernel_rfl
theorem ck74 : chkF st 74 f74 = true := by kernel_rfl
theorem ck75 : chkF st 75 f75 = true := by kernel_rfl
theorem ck76 : chkF st 76 f76 = true := by kernel_rfl
theorem ck77 : chkF st 77 f77 = true := by kernel_rfl
theorem ck78 : chkF st 78 f78 = true := by kernel_rfl
theorem ck79 : chkF st 79 f79 = true := by kernel_rfl
theorem ck80 : chkF st 80 f80 = true := by kernel_rfl
theorem ck140 : chkF st 140 f140 = true := by kernel_rfl
theorem ck196 : chkF st 196 f196 = true := by kernel_rfl
theorem ck197 : chkF st 197 f197 = true := by kernel_rfl
theorem ck198 : chkF st 198 f198 = true := by kernel_rfl
theorem ck199 : chkF st 199 f199 = true := by kernel_rfl
theorem ck200 : chkF st 200 f200 = true := by kernel_rfl
theorem ck201 : chkF st 201 f201 = true := by kernel_rfl
theorem ck202 : chkF st 202 f202 = true := by kernel_rfl
theorem ck207 : chkF st 207 f207 = true := by kernel_rfl
theorem ck212 : chkF st 212 f212 = true := by kernel_rfl
theorem ck213 : chkF st 213 f213 = true := by kernel_rfl
theorem ck214 : chkF st 214 f214 = true := by kernel_rfl
theorem ck215 : chkF st 215 f215 = true := by kernel_rfl
theorem ck216 : chkF st 216 f216 = true := by kernel_rfl
theorem ck220 : chkF st 220 f220 = true := by kernel_rfl
theorem ck312 : chkF st 312 f312 = true := by kernel_rfl
theorem ck315 : chkF st 315 f315 = true := by kernel_rfl
theorem ck316 : chkF st 316 f316 = true := by kernel_rfl
theorem ck317 : chkF st 317 f317 = true := by kernel_rfl
theorem ck318 : chkF st 318 f318 = true := by kernel_rfl
theorem ck319 : chkF st 319 f319 = true := by kernel_rfl
theorem ck320 : chkF st 320 f320 = true := by kernel_rfl
theorem ck328 : chkF st 328 f328 = true := by kernel_rfl
theorem ck417 : chkF st 417 f417 = true := by kernel_rfl
theorem ck418 : chkF st 418 f418 = true := by kernel_rfl
theorem ck419 : chkF st 419 f419 = true := by kernel_rfl
theorem ck420 : chkF st 420 f420 = true := by kernel_rfl
theorem ck462 : chkF st 462 f462 = true := by kernel_rfl
theorem fn220 : FnOK st 220 := ⟨by decide, Tryd.f73, Tryd.func73, by kernel_rfl, by kernel_rfl⟩
theorem okA : OkA st := ⟨ck46, ck47, ck49, ck50, ck51, ck52, ck53, ck74, ck196, ck197, ck198, ck200, ck201, ck207, ck315, ck316, ck317, ck318, ck312, ck417, ck462, ck199, ck202⟩
theorem okH : OkH st := ⟨ck319, ck418, ck419, ck420⟩
theorem okS : OkS st := ⟨okH, ck68, ck212, ck213, ck320, ck328⟩
theorem okV : OkV st := ⟨okS, ck70, ck71, ck79, ck214, ck216, ck220, fn220⟩
theorem okI : OkI st := ⟨okV, ck67, ck69, ck75, ck76, ck77⟩
theorem okW : OkW st := ⟨okI, ck215⟩
theorem okNC : OkNC st := ⟨okW, ck78, ck12⟩
theorem as1R (a b : Int) : Runs st 93 [erN a, .ifc 394 (.ptr 0 [])] [(0, .int .i64 b)] 1 (fun r H' k' => r = .bool true ∧ H' = [(0, .int .i64 a)] ∧ k' = 1) :=
  as1_of (g := 0) (gv := etV) (by simp [st]) (fun n t old w hg ht hf => (as_num n t old w hg ht hf).mono fun ev w' h => ⟨h.1, _, _, _, _, h.2⟩) a b
theorem as2R (a : Int) : Runs st 93 [erN a, .ifc 147 (.ptr 0 [])] [(0, .nilp)] 1 (fun r H' k' => r = .bool false ∧ H' = [(0, .nilp)] ∧ k' = 1) :=
  as2_of (g := 0) (gv := etV) (by simp [st]) (fun n t w hg => (as_miss n t w hg).mono fun ev w' h => ⟨h.1, _, _, _, h.2⟩) a
theorem okN : OkN st := ⟨ck80, ck140, as1R, as2R⟩

end Go.Proofs.YtfoaeafobdamcaaDoor
