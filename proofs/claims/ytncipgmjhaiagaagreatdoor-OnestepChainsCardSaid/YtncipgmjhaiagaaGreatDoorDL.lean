/- A part. -/
import Derived.Test.YtncipgmjhaiagaaGreatDoorCR
import Derived.Test.YtncipgmjhaiagaaGreatDoorDK
set_option linter.all false
set_option maxRecDepth 20000
set_option maxHeartbeats 4000000
namespace Mv
open Go
theorem Wz (a b : BitVec 64) (H : Hp) : AK .or (W a) (W b) H = ⟨True, W (a ||| b), H⟩ := GW a b H
theorem Mf {M : Seat} (ok : OkB M) (x : BitVec 64) (n : Nat) (hn : n < 64) :
 Af M 461 [W x, .int .i64 n] [] 0 (Q3 (W (Qk x n)) [] 0) := by
 refine Ac ok.k461 rfl fun c hx => ?_
 have e1 : (n : Int).tmod 64 = n := Ji
 refine es 30 ?_
 by_cases h0 : n = 0
 ·subst h0
  have d0 : decide ((0 : Int) = 0) = true := rfl
  have e0 : (0 : Int).tmod 64 = 0 := rfl
  simp only [Za, Afk, d0, e0, Dx, ↓Ab, A5, Ad, Nat.reduceLT, Int.reduceLE, Int.reduceLT, Nat.reducePow, Nat.reduceAnd, Nat.reduceOr, Nat.reduceShiftRight, Int.reduceToNat, reduceCtorEq, Nat.reduceAdd, Nat.reduceMul, Nat.reduceSub, Nat.reduceBEq, Nat.reduceEqDiff, Nat.reduceLeDiff, Nat.reduceBneDiff, Nat.reduceBNe, ↓reduceIte]
  refine ⟨by omega, ?_⟩
  refine Aq.mk hx [] [] (W (Qk x 0)) [] 0 Ak ?_ ?_ trivial ⟨rfl, rfl, rfl⟩
  ·simp only [Lc, ↓Ab, ex, Ro, AC, A5, Ad, Nat.reduceLT, Int.reduceLE, Int.reduceLT, Nat.reducePow, Nat.reduceAnd, Nat.reduceOr, Nat.reduceShiftRight, Int.reduceToNat, reduceCtorEq, Nat.reduceAdd, Nat.reduceMul, Nat.reduceSub, Nat.reduceBEq, Nat.reduceEqDiff]
  ·rw [Adr]; simp only [Lb, ↓Ab, ex, Ro, AC, A5, Ad, Nat.reduceLT, Int.reduceLE, Int.reduceLT, Nat.reducePow, Nat.reduceAnd, Nat.reduceOr, Nat.reduceShiftRight, Int.reduceToNat, reduceCtorEq, Nat.reduceAdd, Nat.reduceMul, Nat.reduceSub, Nat.reduceBEq, Nat.reduceEqDiff, Nat.reduceLeDiff]
 ·have d0 : decide ((n : Int) = 0) = false := decide_eq_false Aa
  have w1 : IntKind.u64.wrap ((n : Nat) : Int) = (n : Nat) := Cy Aa
  have w2 : IntKind.i64.wrap (64 - (n : Int)) = ((64 - n : Nat) : Int) := A9
  have w3 : IntKind.u64.wrap ((64 - n : Nat) : Int) = ((64 - n : Nat) : Int) := Cy Aa
  simp only [Za, Afk, d0, e1, w1, w2, w3, Wz, Dx, ↓Ab, A5, Ad, Nat.reduceLT, Int.reduceLE, Int.reduceLT, Nat.reducePow, Nat.reduceAnd, Nat.reduceOr, Nat.reduceShiftRight, Int.reduceToNat, reduceCtorEq, Nat.reduceAdd, Nat.reduceMul, Nat.reduceSub, Nat.reduceBEq, Nat.reduceEqDiff, Nat.reduceLeDiff, Nat.reduceBneDiff, Nat.reduceBNe, ↓reduceIte]
  refine ⟨by omega, by omega, by omega, ?_⟩
  refine Aq.mk hx [] [] (W (Qk x n)) [] 0 Ak ?_ ?_ trivial ⟨rfl, rfl, rfl⟩
  ·simp only [Lc, ↓Ab, ex, Ro, AC, A5, Ad, Nat.reduceLT, Int.reduceLE, Int.reduceLT, Nat.reducePow, Nat.reduceAnd, Nat.reduceOr, Nat.reduceShiftRight, Int.reduceToNat, reduceCtorEq, Nat.reduceAdd, Nat.reduceMul, Nat.reduceSub, Nat.reduceBEq, Nat.reduceEqDiff]
  ·simp only [Lb, ↓Ab, ex, Ro, AC, A5, Ad, Nat.reduceLT, Int.reduceLE, Int.reduceLT, Nat.reducePow, Nat.reduceAnd, Nat.reduceOr, Nat.reduceShiftRight, Int.reduceToNat, reduceCtorEq, Nat.reduceAdd, Nat.reduceMul, Nat.reduceSub, Nat.reduceBEq, Nat.reduceEqDiff, Nat.reduceLeDiff]
   rfl
def lf : Nat → Nat
 | 0 => 1
 | n + 1 => if 255 < lf n * 2 then (lf n * 2) ^^^ 369 else lf n * 2
def kk (i : Nat) : Nat → BitVec 64
 | 0 => 0
 | j + 1 => if lf (7 * i + j) % 2 = 1 then kk i j ||| ((1 : BitVec 64) <<< (2 ^ j - 1)) else kk i j
theorem Als : ∀ n, n ≤ 168 → lf n < 256 := Ak
theorem Ac5 : ∀ i, i < 24 → kk i 7 = rc.getD i 0 := Ak
theorem Amr {a b : Nat} (ha : a < 4611686018427387904) (hb : b < 4611686018427387904) : IntKind.i64.wrap (((BitVec.ofInt IntKind.i64.bits (a : Int) ^^^ BitVec.ofInt IntKind.i64.bits (b : Int)).toNat : Nat) : Int) = ((a ^^^ b : Nat) : Int) := by
 show IntKind.i64.wrap (((BitVec.ofInt 64 (a : Int) ^^^ BitVec.ofInt 64 (b : Int)).toNat : Nat) : Int) = _
 have h2 : a ^^^ b < 2 ^ 63 := Nat.xor_lt_two_pow Aa Aa
 rw [BB, BB, BitVec.toNat_xor, BitVec.toNat_ofNat, BitVec.toNat_ofNat, Nat.mod_eq_of_lt Aa, Nat.mod_eq_of_lt Aa]
 rw [AI Aa]
theorem W1 : V.int .u64 1 = W 1 := rfl
theorem FQ (a b : BitVec 64) (H : Hp) : AK .sub (W a) (W b) H = ⟨True, W (a - b), H⟩ := by
 have ha := a.isLt
 have hb := b.isLt
 simp only [AK, W, Dw, BitVec.toNat_sub]
 congr 2
 omega
theorem FU (a b : BitVec 64) (H : Hp) : AK .shl (W a) (W b) H = ⟨True, W (a <<< b.toNat), H⟩ := by
 have h := E5 a .u64 (b.toNat : Int) H
 simp only [Int.toNat_natCast] at h
 rw [show W b = V.int .u64 (b.toNat : Int) from rfl, h]
 simp
theorem Abl : ∀ j, j < 7 → ((1 : BitVec 64) <<< j - 1).toNat = 2 ^ j - 1 := Ak
theorem KW {M : Seat} (ok : OkB M) :
 Af M 413 [] [] 0 (Q3 (.sl 0 [] 0 24 1) [(0, .ar 1 24 (ws rc))] 1) := by
 refine Ac ok.k413 rfl fun x hx => ?_
 refine es 30 ?_
 simp only [Ad1, Alq, Dx, ↓Ab, A5, Ad, Nat.reduceLT, Int.reduceLE, Int.reduceLT, Nat.reducePow, Nat.reduceAnd, Nat.reduceOr, Nat.reduceShiftRight, Int.reduceToNat, reduceCtorEq, Nat.reduceAdd, Nat.reduceMul, Nat.reduceSub, Nat.reduceBEq, Nat.reduceEqDiff, Nat.reduceLeDiff, Nat.reduceBneDiff, Nat.reduceBNe, ↓reduceIte]
 refine Ag (σ := Nat) (fun i => i ≤ 24) (fun i => fr 35 [(1, if i = 0 then .nils else .sl 0 [] 0 i 1), (2, .int .i64 (lf (7 * i) : Nat)), (3, .int .i64 i)])
  (fun i => if i = 0 then [] else [(0, .ar 1 i (ws rc))]) (fun _ => 1) (fun i => 24 - i) 0 Aa ?_ ?_
 ·refine Aj.fr [] [] hx Ax Ak ?_ ?_
  ·simp only [A7, Nat.reduceLT, reduceCtorEq, Nat.reduceEqDiff, Nat.reduceLeDiff, Nat.reduceBEq]
   rfl
  ·trivial
 ·intro i hi
  by_cases h24 : i = 24
  ·subst h24
   have d0 : decide (((24 : Nat) : Int) < 24) = false := rfl
   have n24 : ¬ (24 : Nat) = 0 := Aa
   simp only [if_neg n24]
   (refine es 30 ?_; simp (maxSteps := 2000000) only [d0, Dx, ↓Ab, A5, Ad, Nat.reduceLT, Int.reduceLE, Int.reduceLT, Nat.reducePow, Nat.reduceAnd, Nat.reduceOr, Nat.reduceShiftRight, Int.reduceToNat, reduceCtorEq, Nat.reduceAdd, Nat.reduceMul, Nat.reduceSub, Nat.reduceBEq, Nat.reduceEqDiff, Nat.reduceLeDiff, Nat.reduceBneDiff, Nat.reduceBNe, ↓reduceIte])
   refine Aq.mk hx [0] [] (.sl 0 [] 0 24 1) [(0, .ar 1 24 (ws rc))] 1 Ak ?_ ?_ ?_ ⟨rfl, rfl, rfl⟩
   ·simp only [Lc, ↓Ab, ex, Ro, AC, A5, Ad, Nat.reduceLT, Int.reduceLE, Int.reduceLT, Nat.reducePow, Nat.reduceAnd, Nat.reduceOr, Nat.reduceShiftRight, Int.reduceToNat, reduceCtorEq, Nat.reduceAdd, Nat.reduceMul, Nat.reduceSub, Nat.reduceBEq, Nat.reduceEqDiff]
   ·simp only [Lb, ↓Ab, ex, Ro, AC, A5, Ad, Nat.reduceLT, Int.reduceLE, Int.reduceLT, Nat.reducePow, Nat.reduceAnd, Nat.reduceOr, Nat.reduceShiftRight, Int.reduceToNat, reduceCtorEq, Nat.reduceAdd, Nat.reduceMul, Nat.reduceSub, Nat.reduceBEq, Nat.reduceEqDiff, Nat.reduceLeDiff]
   ·simp only [A7, Nat.reduceLT, reduceCtorEq, Nat.reduceEqDiff, Nat.reduceLeDiff, Nat.reduceBEq]
  ·have d0 : decide ((i : Int) < 24) = true := decide_eq_true Aa
   have wi : IntKind.i64.wrap ((i : Int) + 1) = ((i + 1 : Nat) : Int) := A9
   (refine es 30 ?_; simp (maxSteps := 2000000) only [d0, Dx, ↓Ab, A5, Ad, Nat.reduceLT, Int.reduceLE, Int.reduceLT, Nat.reducePow, Nat.reduceAnd, Nat.reduceOr, Nat.reduceShiftRight, Int.reduceToNat, reduceCtorEq, Nat.reduceAdd, Nat.reduceMul, Nat.reduceSub, Nat.reduceBEq, Nat.reduceEqDiff, Nat.reduceLeDiff, Nat.reduceBneDiff, Nat.reduceBNe, ↓reduceIte])
   refine Ag (σ := Nat) (fun j => j ≤ 7) (fun j => fr 35 [(1, if i = 0 then .nils else .sl 0 [] 0 i 1), (2, .int .i64 (lf (7 * i + j) : Nat)), (3, .int .i64 i), (4, W (kk i j)), (5, .int .i64 j)])
    (fun j => if i = 0 then [] else [(0, .ar 1 i (ws rc))]) (fun _ => 1) (fun j => 7 - j) 0 Aa ?_ ?_
   ·refine Aj.fr [0] [] hx Ax Ak ?_ ?_
    ·simp only [A7, Nat.reduceLT, reduceCtorEq, Nat.reduceEqDiff, Nat.reduceLeDiff, Nat.reduceBEq, W_0, kk]
     by_cases h0 : i = 0
     ·simp only [if_pos h0, A7, Nat.reduceLT, reduceCtorEq, Nat.reduceEqDiff, Nat.reduceLeDiff, Nat.reduceBEq]
      trivial
     ·simp only [if_neg h0, A7, Nat.reduceLT, reduceCtorEq, Nat.reduceEqDiff, Nat.reduceLeDiff, Nat.reduceBEq]
      trivial
    ·by_cases h0 : i = 0
     ·simp only [if_pos h0, A7, Nat.reduceLT, reduceCtorEq, Nat.reduceEqDiff, Nat.reduceLeDiff, Nat.reduceBEq]
     ·simp only [if_neg h0, A7, Nat.reduceLT, reduceCtorEq, Nat.reduceEqDiff, Nat.reduceLeDiff, Nat.reduceBEq]
   ·intro j hj
    by_cases h7 : j = 7
    ·subst h7
     have d1 : decide (((7 : Nat) : Int) < 7) = false := rfl
     have e7 : 7 * i + 7 = 7 * (i + 1) := Aa
     by_cases h0 : i = 0
     ·simp only [if_pos h0]
      (refine es 30 ?_; simp (maxSteps := 2000000) only [d1, wi, Dx, ↓Ab, A5, Ad, Nat.reduceLT, Int.reduceLE, Int.reduceLT, Nat.reducePow, Nat.reduceAnd, Nat.reduceOr, Nat.reduceShiftRight, Int.reduceToNat, reduceCtorEq, Nat.reduceAdd, Nat.reduceMul, Nat.reduceSub, Nat.reduceBEq, Nat.reduceEqDiff, Nat.reduceLeDiff, Nat.reduceBneDiff, Nat.reduceBNe, ↓reduceIte])
      subst h0
      refine ⟨1, by omega, by omega, ?_⟩
      refine Aj.fr [81] [] hx Ax Ak ?_ ?_
      ·simp only [if_neg (Nat.add_one_ne_zero 0), A7, Nat.reduceLT, reduceCtorEq, Nat.reduceEqDiff, Nat.reduceLeDiff, Nat.reduceBEq]
      ·simp only [if_neg (Nat.add_one_ne_zero 0), A7, Nat.reduceLT, reduceCtorEq, Nat.reduceEqDiff, Nat.reduceLeDiff, Nat.reduceBEq]
       intro q hq
       have : q = 0 := Aa
       subst this
       simp only [if_true, Ac5 0 Aa, Ds]
     ·simp only [if_neg h0]
      (refine es 30 ?_; simp (maxSteps := 2000000) only [d1, wi, Dx, ↓Ab, A5, Ad, Nat.reduceLT, Int.reduceLE, Int.reduceLT, Nat.reducePow, Nat.reduceAnd, Nat.reduceOr, Nat.reduceShiftRight, Int.reduceToNat, reduceCtorEq, Nat.reduceAdd, Nat.reduceMul, Nat.reduceSub, Nat.reduceBEq, Nat.reduceEqDiff, Nat.reduceLeDiff, Nat.reduceBneDiff, Nat.reduceBNe, ↓reduceIte])
      refine ⟨by omega, i + 1, by omega, by omega, ?_⟩
      refine Aj.fr [81] [] hx Ax Ak ?_ ?_
      ·simp only [if_neg (Nat.add_one_ne_zero i), e7, A7, Nat.reduceLT, reduceCtorEq, Nat.reduceEqDiff, Nat.reduceLeDiff, Nat.reduceBEq]
      ·simp only [if_neg (Nat.add_one_ne_zero i), A7, Nat.reduceLT, reduceCtorEq, Nat.reduceEqDiff, Nat.reduceLeDiff, Nat.reduceBEq]
       intro q hq
       by_cases h1 : q < i
       ·rw [if_pos h1]; exact (Ds _ _ _ _ _).mpr rfl
       ·have : q = i := Aa
        subst this
        rw [if_neg h1, if_pos Aa, Ac5 q Aa]; exact (Ds _ _ _ _ _).mpr rfl
    ·have d1 : decide ((j : Int) < 7) = true := decide_eq_true Aa
     have wj : IntKind.i64.wrap ((j : Int) + 1) = ((j + 1 : Nat) : Int) := A9
     have hl := Als (7 * i + j) Aa
     have w2 : IntKind.i64.wrap (((lf (7 * i + j) : Nat) : Int) * 2) = ((lf (7 * i + j) * 2 : Nat) : Int) := A9
     have wx : IntKind.i64.wrap (((BitVec.ofInt IntKind.i64.bits ((lf (7 * i + j) * 2 : Nat) : Int) ^^^ BitVec.ofInt IntKind.i64.bits 369).toNat : Nat) : Int) = (((lf (7 * i + j) * 2) ^^^ 369 : Nat) : Int) := Amr (b := 369) Aa Ak
     have wu : IntKind.u64.wrap ((j : Nat) : Int) = (j : Nat) := Cy Aa
     have hs := Abl j Aa
     have hm : ((lf (7 * i + j) : Nat) : Int).tmod 2 = ((lf (7 * i + j) % 2 : Nat) : Int) := Ji
     by_cases hb : lf (7 * i + j) % 2 = 1
     ·have d2 : decide (((lf (7 * i + j) % 2 : Nat) : Int) = 1) = true := decide_eq_true Aa
      have hk : kk i (j + 1) = kk i j ||| ((1 : BitVec 64) <<< (2 ^ j - 1)) := by rw [kk, if_pos hb]
      by_cases hc : 255 < lf (7 * i + j) * 2
      ·have d3 : decide ((255 : Int) < ((lf (7 * i + j) * 2 : Nat) : Int)) = true := decide_eq_true Aa
       have hn : lf (7 * i + (j + 1)) = (lf (7 * i + j) * 2) ^^^ 369 := by show lf (7 * i + j + 1) = _; rw [lf, if_pos hc]
       (refine es 30 ?_; simp (maxSteps := 2000000) only [W1, FQ, FU, hs, hm, d1, d2, d3, w2, wx, wu, wj, Dx, ↓Ab, A5, Ad, Nat.reduceLT, Int.reduceLE, Int.reduceLT, Nat.reducePow, Nat.reduceAnd, Nat.reduceOr, Nat.reduceShiftRight, Int.reduceToNat, reduceCtorEq, Nat.reduceAdd, Nat.reduceMul, Nat.reduceSub, Nat.reduceBEq, Nat.reduceEqDiff, Nat.reduceLeDiff, Nat.reduceBneDiff, Nat.reduceBNe, ↓reduceIte])
       refine ⟨by omega, by omega, j + 1, by omega, by omega, ?_⟩
       rw [hk, hn]
       refine Aj.fr [0] [] hx Ax Ak ?_ ?_
       ·simp only [A7, Nat.reduceLT, reduceCtorEq, Nat.reduceEqDiff, Nat.reduceLeDiff, Nat.reduceBEq]
        by_cases h0 : i = 0
        ·simp only [if_pos h0, A7, Nat.reduceLT, reduceCtorEq, Nat.reduceEqDiff, Nat.reduceLeDiff, Nat.reduceBEq]
        ·simp only [if_neg h0, A7, Nat.reduceLT, reduceCtorEq, Nat.reduceEqDiff, Nat.reduceLeDiff, Nat.reduceBEq]
       ·by_cases h0 : i = 0
        ·simp only [if_pos h0, A7, Nat.reduceLT, reduceCtorEq, Nat.reduceEqDiff, Nat.reduceLeDiff, Nat.reduceBEq]
        ·simp only [if_neg h0, A7, Nat.reduceLT, reduceCtorEq, Nat.reduceEqDiff, Nat.reduceLeDiff, Nat.reduceBEq]
      ·have d3 : decide ((255 : Int) < ((lf (7 * i + j) * 2 : Nat) : Int)) = false := decide_eq_false Aa
       have hn : lf (7 * i + (j + 1)) = lf (7 * i + j) * 2 := by show lf (7 * i + j + 1) = _; rw [lf, if_neg hc]
       (refine es 30 ?_; simp (maxSteps := 2000000) only [W1, FQ, FU, hs, hm, d1, d2, d3, w2, wx, wu, wj, Dx, ↓Ab, A5, Ad, Nat.reduceLT, Int.reduceLE, Int.reduceLT, Nat.reducePow, Nat.reduceAnd, Nat.reduceOr, Nat.reduceShiftRight, Int.reduceToNat, reduceCtorEq, Nat.reduceAdd, Nat.reduceMul, Nat.reduceSub, Nat.reduceBEq, Nat.reduceEqDiff, Nat.reduceLeDiff, Nat.reduceBneDiff, Nat.reduceBNe, ↓reduceIte])
       refine ⟨by omega, by omega, j + 1, by omega, by omega, ?_⟩
       rw [hk, hn]
       refine Aj.fr [0] [] hx Ax Ak ?_ ?_
       ·simp only [A7, Nat.reduceLT, reduceCtorEq, Nat.reduceEqDiff, Nat.reduceLeDiff, Nat.reduceBEq]
        by_cases h0 : i = 0
        ·simp only [if_pos h0, A7, Nat.reduceLT, reduceCtorEq, Nat.reduceEqDiff, Nat.reduceLeDiff, Nat.reduceBEq]
        ·simp only [if_neg h0, A7, Nat.reduceLT, reduceCtorEq, Nat.reduceEqDiff, Nat.reduceLeDiff, Nat.reduceBEq]
       ·by_cases h0 : i = 0
        ·simp only [if_pos h0, A7, Nat.reduceLT, reduceCtorEq, Nat.reduceEqDiff, Nat.reduceLeDiff, Nat.reduceBEq]
        ·simp only [if_neg h0, A7, Nat.reduceLT, reduceCtorEq, Nat.reduceEqDiff, Nat.reduceLeDiff, Nat.reduceBEq]
     ·have d2 : decide (((lf (7 * i + j) % 2 : Nat) : Int) = 1) = false := decide_eq_false Aa
      have hk : kk i (j + 1) = kk i j := by rw [kk, if_neg hb]
      by_cases hc : 255 < lf (7 * i + j) * 2
      ·have d3 : decide ((255 : Int) < ((lf (7 * i + j) * 2 : Nat) : Int)) = true := decide_eq_true Aa
       have hn : lf (7 * i + (j + 1)) = (lf (7 * i + j) * 2) ^^^ 369 := by show lf (7 * i + j + 1) = _; rw [lf, if_pos hc]
       (refine es 30 ?_; simp (maxSteps := 2000000) only [W1, FQ, FU, hs, hm, d1, d2, d3, w2, wx, wu, wj, Dx, ↓Ab, A5, Ad, Nat.reduceLT, Int.reduceLE, Int.reduceLT, Nat.reducePow, Nat.reduceAnd, Nat.reduceOr, Nat.reduceShiftRight, Int.reduceToNat, reduceCtorEq, Nat.reduceAdd, Nat.reduceMul, Nat.reduceSub, Nat.reduceBEq, Nat.reduceEqDiff, Nat.reduceLeDiff, Nat.reduceBneDiff, Nat.reduceBNe, ↓reduceIte])
       refine ⟨by omega, j + 1, by omega, by omega, ?_⟩
       rw [hk, hn]
       refine Aj.fr [0] [] hx Ax Ak ?_ ?_
       ·simp only [A7, Nat.reduceLT, reduceCtorEq, Nat.reduceEqDiff, Nat.reduceLeDiff, Nat.reduceBEq]
        by_cases h0 : i = 0
        ·simp only [if_pos h0, A7, Nat.reduceLT, reduceCtorEq, Nat.reduceEqDiff, Nat.reduceLeDiff, Nat.reduceBEq]
        ·simp only [if_neg h0, A7, Nat.reduceLT, reduceCtorEq, Nat.reduceEqDiff, Nat.reduceLeDiff, Nat.reduceBEq]
       ·by_cases h0 : i = 0
        ·simp only [if_pos h0, A7, Nat.reduceLT, reduceCtorEq, Nat.reduceEqDiff, Nat.reduceLeDiff, Nat.reduceBEq]
        ·simp only [if_neg h0, A7, Nat.reduceLT, reduceCtorEq, Nat.reduceEqDiff, Nat.reduceLeDiff, Nat.reduceBEq]
      ·have d3 : decide ((255 : Int) < ((lf (7 * i + j) * 2 : Nat) : Int)) = false := decide_eq_false Aa
       have hn : lf (7 * i + (j + 1)) = lf (7 * i + j) * 2 := by show lf (7 * i + j + 1) = _; rw [lf, if_neg hc]
       (refine es 30 ?_; simp (maxSteps := 2000000) only [W1, FQ, FU, hs, hm, d1, d2, d3, w2, wx, wu, wj, Dx, ↓Ab, A5, Ad, Nat.reduceLT, Int.reduceLE, Int.reduceLT, Nat.reducePow, Nat.reduceAnd, Nat.reduceOr, Nat.reduceShiftRight, Int.reduceToNat, reduceCtorEq, Nat.reduceAdd, Nat.reduceMul, Nat.reduceSub, Nat.reduceBEq, Nat.reduceEqDiff, Nat.reduceLeDiff, Nat.reduceBneDiff, Nat.reduceBNe, ↓reduceIte])
       refine ⟨by omega, j + 1, by omega, by omega, ?_⟩
       rw [hk, hn]
       refine Aj.fr [0] [] hx Ax Ak ?_ ?_
       ·simp only [A7, Nat.reduceLT, reduceCtorEq, Nat.reduceEqDiff, Nat.reduceLeDiff, Nat.reduceBEq]
        by_cases h0 : i = 0
        ·simp only [if_pos h0, A7, Nat.reduceLT, reduceCtorEq, Nat.reduceEqDiff, Nat.reduceLeDiff, Nat.reduceBEq]
        ·simp only [if_neg h0, A7, Nat.reduceLT, reduceCtorEq, Nat.reduceEqDiff, Nat.reduceLeDiff, Nat.reduceBEq]
       ·by_cases h0 : i = 0
        ·simp only [if_pos h0, A7, Nat.reduceLT, reduceCtorEq, Nat.reduceEqDiff, Nat.reduceLeDiff, Nat.reduceBEq]
        ·simp only [if_neg h0, A7, Nat.reduceLT, reduceCtorEq, Nat.reduceEqDiff, Nat.reduceLeDiff, Nat.reduceBEq]
def I3 : Nat → Nat × Nat
 | 0 => (1, 0)
 | t + 1 => ((I3 t).2, (2 * (I3 t).1 + 3 * (I3 t).2) % 5)
def tv : Nat → Nat → Nat
 | 0, _ => 0
 | q + 1, j => if j = (I3 q).1 + 5 * (I3 q).2 then ((q + 1) * (q + 2) / 2) % 64 else tv q j
theorem Afm : ∀ t, t ≤ 24 → (I3 t).1 < 5 ∧ (I3 t).2 < 5 := Ak
theorem R5 {M : Seat} (ok : OkB M) :
 Af M 414 [] [] 0 (Q3 (.sl 0 [] 0 25 1) [(0, .ar 1 25 (fun j => .int .i64 (tv 24 j : Nat)))] 1) := by
 refine Ac ok.k414 rfl fun x hx => ?_
 refine es 30 ?_
 simp only [Agm, Al6, Dx, ↓Ab, A5, Ad, seval]
 repeat refine sd ?_
 refine Ag (σ := Nat) (fun t => t ≤ 24) (fun t => fr 33 [(1, .sl 0 [] 0 25 1), (2, .int .i64 ((I3 t).1 : Nat)), (3, .int .i64 ((I3 t).2 : Nat)), (4, .int .i64 t)])
  (fun t => [(0, .ar 1 25 (fun j => .int .i64 (tv t j : Nat)))]) (fun _ => 1) (fun t => 24 - t) 0 Aa ?_ ?_
 ·refine Aj.fr [16] [] hx Ax Ak ?_ ?_
  ·simp only [A7, seval]
   exact ⟨rfl, rfl⟩
  ·simp only [A7, seval]
   exact fun _ _ => rfl
 ·intro t ht
  by_cases h24 : t = 24
  ·subst h24
   have d0 : decide (((24 : Nat) : Int) < 24) = false := rfl
   (refine es 30 ?_; simp (maxSteps := 2000000) only [d0, Dx, ↓Ab, A5, Ad, seval])
   refine Aq.mk hx [0] [] (.sl 0 [] 0 25 1) [(0, .ar 1 25 (fun j => .int .i64 (tv 24 j : Nat)))] 1 Ak ?_ ?_ ?_ ⟨rfl, rfl, rfl⟩
   ·simp only [Lc, ↓Ab, ex, Ro, AC, A5, Ad, seval]
   ·simp only [Lb, ↓Ab, ex, Ro, AC, A5, Ad, seval]
   ·simp only [A7, seval]
  ·have d0 : decide ((t : Int) < 24) = true := decide_eq_true Aa
   obtain ⟨hx5, hy5⟩ := Afm t ht
   have w1 : IntKind.i64.wrap ((t : Int) + 1) = ((t + 1 : Nat) : Int) := A9
   have w2 : IntKind.i64.wrap ((t : Int) + 2) = ((t + 2 : Nat) : Int) := A9
   have w3 : IntKind.i64.wrap (5 * (((I3 t).2 : Nat) : Int)) = ((5 * (I3 t).2 : Nat) : Int) := A9
   have w4 : IntKind.i64.wrap ((((I3 t).1 : Nat) : Int) + ((5 * (I3 t).2 : Nat) : Int)) = (((I3 t).1 + 5 * (I3 t).2 : Nat) : Int) := A9
   have hm : (t + 1) * (t + 2) ≤ 25 * 26 := Nat.mul_le_mul Aa Aa
   have w5 : IntKind.i64.wrap (((t + 1 : Nat) : Int) * ((t + 2 : Nat) : Int)) = (((t + 1) * (t + 2) : Nat) : Int) := by rw [← Int.natCast_mul, AI Aa]
   have w6 : IntKind.i64.wrap ((((t + 1) * (t + 2) : Nat) : Int).tdiv 2) = (((t + 1) * (t + 2) / 2 : Nat) : Int) := V5 Aa
   have w7 : ((((t + 1) * (t + 2) / 2 : Nat) : Int)).tmod 64 = (((t + 1) * (t + 2) / 2 % 64 : Nat) : Int) := Ji
   have w8 : IntKind.i64.wrap (2 * (((I3 t).1 : Nat) : Int)) = ((2 * (I3 t).1 : Nat) : Int) := A9
   have w9 : IntKind.i64.wrap (3 * (((I3 t).2 : Nat) : Int)) = ((3 * (I3 t).2 : Nat) : Int) := A9
   have wa : IntKind.i64.wrap (((2 * (I3 t).1 : Nat) : Int) + ((3 * (I3 t).2 : Nat) : Int)) = ((2 * (I3 t).1 + 3 * (I3 t).2 : Nat) : Int) := A9
   have wb : (((2 * (I3 t).1 + 3 * (I3 t).2 : Nat) : Int)).tmod 5 = (((2 * (I3 t).1 + 3 * (I3 t).2) % 5 : Nat) : Int) := Ji
   (refine es 30 ?_; simp (maxSteps := 2000000) only [d0, w1, w2, w3, w4, w5, w6, w7, w8, w9, wa, wb, Dx, ↓Ab, A5, Ad, seval])
   repeat refine sd ?_
   refine ⟨t + 1, by omega, by omega, ?_⟩
   refine Aj.fr [0] [] hx Ax Ak ?_ ?_
   ·simp only [A7, seval]
    exact ⟨rfl, rfl⟩
   ·simp only [A7, seval]
    intro j hj
    rw [tv]
    split <;> rfl
end Mv
