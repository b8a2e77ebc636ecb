/- laid: a machine with cells, registers; the document's. -/
import Derived.Test.YtfoaeafobdamcaaDoorDh
set_option linter.unusedSimpArgs false
set_option linter.unusedVariables false
namespace Mv
open Go
set_option maxRecDepth 20000
set_option maxHeartbeats 4000000
set_option linter.unusedSimpArgs false

def cellV (c : BitVec 64 × BitVec 64) : V := .st 2 (.fcons 0 (W c.1) (.fcons 1 (W c.2) .fnil))
def cellsV (cs : List (BitVec 64 × BitVec 64)) : V := .lst 2 cs.length (fun j => cellV (cs.getD j (0, 0)))
def wordsV (rs : List (BitVec 64)) : V := .lst 1 rs.length (ws rs)
/-- The memory behind so many cells. -/
def memF (cs : List (BitVec 64 × BitVec 64)) : Nat → Nat → BitVec 64
  | 0, _ => 0
  | q + 1, j => if j = (cs.getD q (0, 0)).1.toNat % 8192 then (cs.getD q (0, 0)).2 else memF cs q j
def regF (rs : List (BitVec 64)) (i j : Nat) : BitVec 64 := if j < i then rs.getD j 0 else 0

def laidH (f g : Nat → BitVec 64) (pc : BitVec 64) (hl : Bool) (xt : BitVec 64) (m : Nat) : Hp :=
  [(m, mach f g pc hl xt), (m + 1, refm (m + 2) (m + 3) pc hl xt), (m + 2, .ar 1 8192 (fun j => W (f j))), (m + 3, .ar 1 16 (fun j => W (g j)))]

def laidT : LC := (.seq ((.seq (.reg [A1 59 (.mv (.t 1)),
  A1 60 (.len 0 (.t 59)),
  A1 61 (.mm false (.c (.int .i64 16)) (.t 60)),
  A1 62 (.mv (.c (.int .i64 0)))])
 (.block 2 (.loop ((.seq (.reg [A1 63 (.ari .lss (.t 62) (.t 61))])
 ((.seq (.cond (.t 63) (.skip) (.exit 2))
 ((.seq (.block 3 ((.seq (.reg [A1 64 (.mv (.t 62)),
  A1 17 (.mv (.t 64))])
 (.regd [⟨0, 0, A1 65 (.mv (.t 12))⟩,
  ⟨1, 0, A1 66 (.mv (.t 17))⟩,
  ⟨2, 0, A1 67 (.mv (.t 14))⟩,
  ⟨3, 4, A1 68 (.nilc (.t 67))⟩,
  ⟨4, 12, A1 69 (.fadr 1 (.t 68))⟩,
  ⟨5, 28, A1 70 (.load false 1 (.t 69))⟩,
  ⟨7, 0, A1 72 (.mv (.t 1))⟩,
  ⟨8, 0, A1 73 (.mv (.t 17))⟩,
  ⟨9, 192, A1 74 (.isl 1 (.t 72) (.t 73))⟩,
  ⟨10, 448, A1 75 (.load false 1 (.t 74))⟩,
  ⟨11, 0, A1 76 (.mv (.t 1))⟩,
  ⟨12, 0, A1 77 (.mv (.t 17))⟩,
  ⟨13, 3072, A1 78 (.isl 1 (.t 76) (.t 77))⟩,
  ⟨14, 7168, A1 79 (.load false 1 (.t 78))⟩,
  ⟨15, 1, A1 80 (.nilc (.t 65))⟩,
  ⟨16, 16385, A1 81 (.fadr 8192 (.t 80))⟩,
  ⟨17, 65535, A1 82 (.iarr 16 1 (.t 81) (.t 66))⟩,
  ⟨18, 131071, A0 (.store 1 (.t 82) (.t 75))⟩,
  ⟨6, 0, A1 71 (.mv (.t 17))⟩,
  ⟨19, 524287, A1 83 (.isl 1 (.t 70) (.t 71))⟩,
  ⟨20, 1048575, A0 (.store 1 (.t 83) (.t 79))⟩]))))
 (.reg [A1 84 (.ari .add (.t 62) (.c (.int .i64 1))),
  A1 62 (.mv (.t 84))])))))))))))
 ((.seq (.reg [A1 85 (.mv (.t 12)),
  A1 86 (.mv (.t 12)),
  A1 87 (.mv (.t 12)),
  A1 88 (.mv (.t 2)),
  A1 89 (.mv (.t 3)),
  A1 90 (.mv (.t 4)),
  A1 91 (.nilc (.t 85)),
  A1 92 (.fadr 8208 (.t 91)),
  A0 (.store 1 (.t 92) (.t 88)),
  A1 93 (.nilc (.t 86)),
  A1 94 (.fadr 8210 (.t 93)),
  A0 (.store 1 (.t 94) (.t 89)),
  A1 95 (.nilc (.t 87)),
  A1 96 (.fadr 8209 (.t 95)),
  A0 (.store 1 (.t 96) (.t 90))])
 ((.seq (.reg [A1 97 (.mv (.t 14)),
  A1 98 (.mv (.t 14)),
  A1 99 (.mv (.t 14)),
  A1 100 (.mv (.t 2)),
  A1 101 (.mv (.t 3)),
  A1 102 (.mv (.t 4)),
  A1 103 (.nilc (.t 97)),
  A1 104 (.fadr 2 (.t 103)),
  A0 (.store 1 (.t 104) (.t 100)),
  A1 105 (.nilc (.t 98)),
  A1 106 (.fadr 4 (.t 105)),
  A0 (.store 1 (.t 106) (.t 101)),
  A1 107 (.nilc (.t 99)),
  A1 108 (.fadr 3 (.t 107)),
  A0 (.store 1 (.t 108) (.t 102))])
 ((.seq (.reg [A1 109 (.mv (.t 12)),
  A1 110 (.mv (.t 14)),
  A1 10 (.mv (.t 109)),
  A1 11 (.mv (.t 110))])
 (.ret))))))))
abbrev LaidQ (cs : List (BitVec 64 × BitVec 64)) (rs : List (BitVec 64)) (pc : BitVec 64) (hl : Bool) (xt : BitVec 64) : V → Hp → Nat → Prop := fun r H' k' =>
  r = tup2 (.ptr 0 []) (.ptr 1 []) ∧ H' = laidH (memF cs (min cs.length 100)) (regF rs (min rs.length 16)) pc hl xt 0 ∧ k' = 4

theorem laid_tail {M : Seat} {x : Ctx} (ok : OkA M) (hx : x.k = 0) (cs : List (BitVec 64 × BitVec 64)) (rs : List (BitVec 64)) (rv : V) (hrv : rv = wordsV rs ∨ (rv = .nils ∧ rs = [])) (hrl : rs.length < 9223372036854775808) (pc : BitVec 64) (hl : Bool) (xt : BitVec 64) :
    SemK M x (RetS M x [.tmp 10, .tmp 11] (LaidQ cs rs pc hl xt)) [.code laidT] 4 (fr 111 [(1, rv), (2, W pc), (3, W xt), (4, .bool hl), (12, .ptr 0 []), (14, .ptr 1 [])])
      (laidH (memF cs (min cs.length 100)) (fun _ => 0) 0 false 0 0) := by
  generalize hf : memF cs (min cs.length 100) = f
  have w0 : (if (rs.length : Int) < 16 then (rs.length : Int) else 16) = ((min rs.length 16 : Nat) : Int) := by split <;> omega
  have fin : ∀ n, n = min rs.length 16 → ∀ j, regF rs n j = regF rs (min rs.length 16) j := by rintro n rfl j; rfl
  rcases hrv with h | ⟨h, h0⟩
  · subst h
    (refine ex_sound 40 _ _ _ _ ?_; simp (maxSteps := 2000000) only [laidT, wordsV, laidH, mach, refm, w0, eqP_in, eqP_mn, eqP_nn, eqP_pn, eqV_in, eqV_mn, eqV_nn, eqV_pn, LU, ↓step_conv, ex, Ro, RoD, OpD, epk, epochs, Mv.hx, idsOK, bs, wmask, LK.isW, LK.isA, LK.isP, step, num, X.ev, List.cons_append, List.nil_append, ne_eq, Nat.reduceLT, Int.reduceLE, Int.reduceLT, Int.cast_ofNat_Int, Nat.reducePow, Nat.reduceAnd, Nat.reduceOr, Nat.reduceShiftRight, BEq.rfl, Int.reduceToNat, vpick, vopt, optInt, isInt, vbuild, vbuildOK, vcaps, vcapsOK, elems, elemsOK, List.length_cons, List.length_nil, hget, hset, hdel, hhas, padd, V.ok, V.get, V.set, V.fget, V.fhas, V.fset, noR, Z.v, Z.sz, if_true, if_false, ite_true, ite_false, cond_true, cond_false, reduceCtorEq, forall_const, Nat.reduceAdd, Nat.reduceMul, Nat.reduceSub, Nat.reduceBEq, Nat.reduceEqDiff, dropTo, List.map_cons, List.map_nil, List.filter_cons, List.filter_nil])
    refine loop_rule (σ := Nat) (fun q => q ≤ min rs.length 16) (fun q => fr 111 [(1, wordsV rs), (2, W pc), (3, W xt), (4, .bool hl), (12, .ptr 0 []), (14, .ptr 1 []), (61, .int .i64 (min rs.length 16 : Nat)), (62, .int .i64 q)])
      (fun q => laidH f (regF rs q) 0 false 0 0) (fun _ => 4) (fun q => min rs.length 16 - q) 0 (by omega) ?_ ?_
    · refine Weak.fr [0, 1, 2, 3] [] hx (by simp only [fr_length]) (by decide) ?_ ?_
      · simp only [LT, SimL, ne_eq, Nat.reduceLT, SimA, Sim, SimH, frz, hget, hhas, List.getElem?_cons_zero, List.getElem?_cons_succ, List.getElem?_nil, BEq.rfl, if_true, reduceCtorEq, Option.some.injEq, Nat.reduceEqDiff, if_false, List.contains_cons, List.contains_nil, V.ok, V.get, V.fget, V.fhas, Nat.reduceLeDiff, implies_true, Nat.reduceBEq, Int.cast_ofNat_Int, wordsV]
      · simp only [LT, SimL, ne_eq, Nat.reduceLT, SimA, Sim, SimH, frz, hget, hhas, List.getElem?_cons_zero, List.getElem?_cons_succ, List.getElem?_nil, BEq.rfl, if_true, reduceCtorEq, Option.some.injEq, Nat.reduceEqDiff, if_false, List.contains_cons, List.contains_nil, V.ok, V.get, V.fget, V.fhas, Nat.reduceLeDiff, implies_true, Nat.reduceBEq, Int.cast_ofNat_Int, laidH, mach, refm, regF, Nat.not_lt_zero, if_false]
    · intro q hq
      have w1 : IntKind.i64.wrap ((q : Int) + 1) = ((q + 1 : Nat) : Int) := by rw [wrap_i64 (by omega)]; omega
      (refine ex_sound 40 _ _ _ _ ?_; simp (maxSteps := 2000000) only [wordsV, laidH, mach, refm, w1, eqP_in, eqP_mn, eqP_nn, eqP_pn, eqV_in, eqV_mn, eqV_nn, eqV_pn, LU, ↓step_conv, ex, Ro, RoD, OpD, epk, epochs, Mv.hx, idsOK, bs, wmask, LK.isW, LK.isA, LK.isP, step, num, X.ev, List.cons_append, List.nil_append, ne_eq, Nat.reduceLT, Int.reduceLE, Int.reduceLT, Int.cast_ofNat_Int, Nat.reducePow, Nat.reduceAnd, Nat.reduceOr, Nat.reduceShiftRight, BEq.rfl, Int.reduceToNat, vpick, vopt, optInt, isInt, vbuild, vbuildOK, vcaps, vcapsOK, elems, elemsOK, List.length_cons, List.length_nil, hget, hset, hdel, hhas, padd, V.ok, V.get, V.set, V.fget, V.fhas, V.fset, noR, Z.v, Z.sz, if_true, if_false, ite_true, ite_false, cond_true, cond_false, reduceCtorEq, forall_const, Nat.reduceAdd, Nat.reduceMul, Nat.reduceSub, Nat.reduceBEq, Nat.reduceEqDiff, dropTo, List.map_cons, List.map_nil, List.filter_cons, List.filter_nil])
      refine ⟨fun hlt => ?_, fun hge => ?_⟩
      · have hlt := of_decide_eq_true hlt
        refine ⟨by omega, by omega, by omega, by omega, by omega, by omega, q + 1, by omega, by omega, ?_⟩
        have hr : ∀ j, (if j = q then rs.getD q 0 else regF rs q j) = regF rs (q + 1) j := by
          intro j
          unfold regF
          by_cases h1 : j = q
          · rw [if_pos h1, if_pos (by omega), h1]
          · rw [if_neg h1]
            by_cases h2 : j < q
            · rw [if_pos h2, if_pos (by omega)]
            · rw [if_neg h2, if_neg (by omega)]
        refine Weak.fr [0, 1, 2, 3] [] hx (by simp only [fr_length]) (by decide) ?_ ?_
        · simp only [LT, SimL, ne_eq, Nat.reduceLT, SimA, Sim, SimH, frz, hget, hhas, List.getElem?_cons_zero, List.getElem?_cons_succ, List.getElem?_nil, BEq.rfl, if_true, reduceCtorEq, Option.some.injEq, Nat.reduceEqDiff, if_false, List.contains_cons, List.contains_nil, V.ok, V.get, V.fget, V.fhas, Nat.reduceLeDiff, implies_true, Nat.reduceBEq, Int.cast_ofNat_Int]
        · simp only [LT, SimL, ne_eq, Nat.reduceLT, SimA, Sim, SimH, frz, hget, hhas, List.getElem?_cons_zero, List.getElem?_cons_succ, List.getElem?_nil, BEq.rfl, if_true, reduceCtorEq, Option.some.injEq, Nat.reduceEqDiff, if_false, List.contains_cons, List.contains_nil, V.ok, V.get, V.fget, V.fhas, Nat.reduceLeDiff, implies_true, Nat.reduceBEq, Int.cast_ofNat_Int, hr]
      · have hge := of_decide_eq_false hge
        have hqe : q = min rs.length 16 := by omega
        subst hqe
        refine RetS.mk hx [0, 1, 2, 3] [] (tup2 (.ptr 0 []) (.ptr 1 [])) (laidH f (regF rs (min rs.length 16)) pc hl xt 0) 4 (by decide) ?_ ?_ ?_ ⟨rfl, by rw [hf], rfl⟩
        · simp only [res, resPs, resP, tupP, resV, LU, ↓step_conv, ex, Ro, RoD, OpD, epk, epochs, Mv.hx, idsOK, bs, wmask, LK.isW, LK.isA, LK.isP, step, num, X.ev, List.cons_append, List.nil_append, ne_eq, Nat.reduceLT, Int.reduceLE, Int.reduceLT, Int.cast_ofNat_Int, Nat.reducePow, Nat.reduceAnd, Nat.reduceOr, Nat.reduceShiftRight, BEq.rfl, Int.reduceToNat, vpick, vopt, optInt, isInt, vbuild, vbuildOK, vcaps, vcapsOK, elems, elemsOK, List.length_cons, List.length_nil, hget, hset, hdel, hhas, padd, V.ok, V.get, V.set, V.fget, V.fhas, V.fset, noR, Z.v, Z.sz, if_true, if_false, ite_true, ite_false, cond_true, cond_false, reduceCtorEq, forall_const, Nat.reduceAdd, Nat.reduceMul, Nat.reduceSub, Nat.reduceBEq, Nat.reduceEqDiff, dropTo, List.map_cons, List.map_nil, List.filter_cons, List.filter_nil]
        · simp only [res, resV, tupV, tup2, tup3, LU, ↓step_conv, ex, Ro, RoD, OpD, epk, epochs, Mv.hx, idsOK, bs, wmask, LK.isW, LK.isA, LK.isP, step, num, X.ev, List.cons_append, List.nil_append, ne_eq, Nat.reduceLT, Int.reduceLE, Int.reduceLT, Int.cast_ofNat_Int, Nat.reducePow, Nat.reduceAnd, Nat.reduceOr, Nat.reduceShiftRight, BEq.rfl, Int.reduceToNat, vpick, vopt, optInt, isInt, vbuild, vbuildOK, vcaps, vcapsOK, elems, elemsOK, List.length_cons, List.length_nil, hget, hset, hdel, hhas, padd, V.ok, V.get, V.set, V.fget, V.fhas, V.fset, noR, Z.v, Z.sz, if_true, if_false, ite_true, ite_false, cond_true, cond_false, reduceCtorEq, forall_const, Nat.reduceAdd, Nat.reduceMul, Nat.reduceSub, Nat.reduceBEq, Nat.reduceEqDiff, dropTo, List.map_cons, List.map_nil, List.filter_cons, List.filter_nil, LT, SimL, ne_eq, Nat.reduceLT, SimA, Sim, SimH, frz, hget, hhas, List.getElem?_cons_zero, List.getElem?_cons_succ, List.getElem?_nil, BEq.rfl, if_true, reduceCtorEq, Option.some.injEq, Nat.reduceEqDiff, if_false, List.contains_cons, List.contains_nil, V.ok, V.get, V.fget, V.fhas, Nat.reduceLeDiff, implies_true, Nat.reduceBEq, Int.cast_ofNat_Int, dg]
        · simp only [laidH, mach, refm, LT, SimL, ne_eq, Nat.reduceLT, SimA, Sim, SimH, frz, hget, hhas, List.getElem?_cons_zero, List.getElem?_cons_succ, List.getElem?_nil, BEq.rfl, if_true, reduceCtorEq, Option.some.injEq, Nat.reduceEqDiff, if_false, List.contains_cons, List.contains_nil, V.ok, V.get, V.fget, V.fhas, Nat.reduceLeDiff, implies_true, Nat.reduceBEq, Int.cast_ofNat_Int]
  · subst h
    have d0 : decide ((0 : Int) < 0) = false := rfl
    have d1 : (if (0 : Int) < 16 then (0 : Int) else 16) = 0 := rfl
    (refine ex_sound 40 _ _ _ _ ?_; simp (maxSteps := 2000000) only [laidT, laidH, mach, refm, d1, eqP_in, eqP_mn, eqP_nn, eqP_pn, eqV_in, eqV_mn, eqV_nn, eqV_pn, LU, ↓step_conv, ex, Ro, RoD, OpD, epk, epochs, Mv.hx, idsOK, bs, wmask, LK.isW, LK.isA, LK.isP, step, num, X.ev, List.cons_append, List.nil_append, ne_eq, Nat.reduceLT, Int.reduceLE, Int.reduceLT, Int.cast_ofNat_Int, Nat.reducePow, Nat.reduceAnd, Nat.reduceOr, Nat.reduceShiftRight, BEq.rfl, Int.reduceToNat, vpick, vopt, optInt, isInt, vbuild, vbuildOK, vcaps, vcapsOK, elems, elemsOK, List.length_cons, List.length_nil, hget, hset, hdel, hhas, padd, V.ok, V.get, V.set, V.fget, V.fhas, V.fset, noR, Z.v, Z.sz, if_true, if_false, ite_true, ite_false, cond_true, cond_false, reduceCtorEq, forall_const, Nat.reduceAdd, Nat.reduceMul, Nat.reduceSub, Nat.reduceBEq, Nat.reduceEqDiff, dropTo, List.map_cons, List.map_nil, List.filter_cons, List.filter_nil])
    refine loop_once ?_
    (refine ex_sound 40 _ _ _ _ ?_; simp (maxSteps := 2000000) only [d0, eqP_in, eqP_mn, eqP_nn, eqP_pn, eqV_in, eqV_mn, eqV_nn, eqV_pn, LU, ↓step_conv, ex, Ro, RoD, OpD, epk, epochs, Mv.hx, idsOK, bs, wmask, LK.isW, LK.isA, LK.isP, step, num, X.ev, List.cons_append, List.nil_append, ne_eq, Nat.reduceLT, Int.reduceLE, Int.reduceLT, Int.cast_ofNat_Int, Nat.reducePow, Nat.reduceAnd, Nat.reduceOr, Nat.reduceShiftRight, BEq.rfl, Int.reduceToNat, vpick, vopt, optInt, isInt, vbuild, vbuildOK, vcaps, vcapsOK, elems, elemsOK, List.length_cons, List.length_nil, hget, hset, hdel, hhas, padd, V.ok, V.get, V.set, V.fget, V.fhas, V.fset, noR, Z.v, Z.sz, if_true, if_false, ite_true, ite_false, cond_true, cond_false, reduceCtorEq, forall_const, Nat.reduceAdd, Nat.reduceMul, Nat.reduceSub, Nat.reduceBEq, Nat.reduceEqDiff, dropTo, List.map_cons, List.map_nil, List.filter_cons, List.filter_nil])
    have hr : ∀ j, regF rs (min rs.length 16) j = 0 := by
      intro j; rw [h0]; simp [regF]
    refine RetS.mk hx [0, 1, 2, 3] [] (tup2 (.ptr 0 []) (.ptr 1 [])) (laidH f (regF rs (min rs.length 16)) pc hl xt 0) 4 (by decide) ?_ ?_ ?_ ⟨rfl, by rw [hf], rfl⟩
    · simp only [res, resPs, resP, tupP, resV, LU, ↓step_conv, ex, Ro, RoD, OpD, epk, epochs, Mv.hx, idsOK, bs, wmask, LK.isW, LK.isA, LK.isP, step, num, X.ev, List.cons_append, List.nil_append, ne_eq, Nat.reduceLT, Int.reduceLE, Int.reduceLT, Int.cast_ofNat_Int, Nat.reducePow, Nat.reduceAnd, Nat.reduceOr, Nat.reduceShiftRight, BEq.rfl, Int.reduceToNat, vpick, vopt, optInt, isInt, vbuild, vbuildOK, vcaps, vcapsOK, elems, elemsOK, List.length_cons, List.length_nil, hget, hset, hdel, hhas, padd, V.ok, V.get, V.set, V.fget, V.fhas, V.fset, noR, Z.v, Z.sz, if_true, if_false, ite_true, ite_false, cond_true, cond_false, reduceCtorEq, forall_const, Nat.reduceAdd, Nat.reduceMul, Nat.reduceSub, Nat.reduceBEq, Nat.reduceEqDiff, dropTo, List.map_cons, List.map_nil, List.filter_cons, List.filter_nil]
    · simp only [res, resV, tupV, tup2, tup3, LU, ↓step_conv, ex, Ro, RoD, OpD, epk, epochs, Mv.hx, idsOK, bs, wmask, LK.isW, LK.isA, LK.isP, step, num, X.ev, List.cons_append, List.nil_append, ne_eq, Nat.reduceLT, Int.reduceLE, Int.reduceLT, Int.cast_ofNat_Int, Nat.reducePow, Nat.reduceAnd, Nat.reduceOr, Nat.reduceShiftRight, BEq.rfl, Int.reduceToNat, vpick, vopt, optInt, isInt, vbuild, vbuildOK, vcaps, vcapsOK, elems, elemsOK, List.length_cons, List.length_nil, hget, hset, hdel, hhas, padd, V.ok, V.get, V.set, V.fget, V.fhas, V.fset, noR, Z.v, Z.sz, if_true, if_false, ite_true, ite_false, cond_true, cond_false, reduceCtorEq, forall_const, Nat.reduceAdd, Nat.reduceMul, Nat.reduceSub, Nat.reduceBEq, Nat.reduceEqDiff, dropTo, List.map_cons, List.map_nil, List.filter_cons, List.filter_nil, LT, SimL, ne_eq, Nat.reduceLT, SimA, Sim, SimH, frz, hget, hhas, List.getElem?_cons_zero, List.getElem?_cons_succ, List.getElem?_nil, BEq.rfl, if_true, reduceCtorEq, Option.some.injEq, Nat.reduceEqDiff, if_false, List.contains_cons, List.contains_nil, V.ok, V.get, V.fget, V.fhas, Nat.reduceLeDiff, implies_true, Nat.reduceBEq, Int.cast_ofNat_Int, dg]
    · simp only [laidH, mach, refm, hr, LT, SimL, ne_eq, Nat.reduceLT, SimA, Sim, SimH, frz, hget, hhas, List.getElem?_cons_zero, List.getElem?_cons_succ, List.getElem?_nil, BEq.rfl, if_true, reduceCtorEq, Option.some.injEq, Nat.reduceEqDiff, if_false, List.contains_cons, List.contains_nil, V.ok, V.get, V.fget, V.fhas, Nat.reduceLeDiff, implies_true, Nat.reduceBEq, Int.cast_ofNat_Int]

theorem runs_laid {M : Seat} (ok : OkA M) (cs : List (BitVec 64 × BitVec 64)) (cv : V) (hcv : cv = cellsV cs ∨ (cv = .nils ∧ cs = [])) (hcl : cs.length < 9223372036854775808) (rs : List (BitVec 64)) (rv : V) (hrv : rv = wordsV rs ∨ (rv = .nils ∧ rs = [])) (hrl : rs.length < 9223372036854775808) (pc : BitVec 64) (hl : Bool) (xt : BitVec 64) :
    Runs M 46 [cv, rv, W pc, W xt, .bool hl] [] 0 (LaidQ cs rs pc hl xt) := by
  have tail : ∀ {x : Ctx} (hx : x.k = 0), _ := fun hx => laid_tail ok hx cs rs rv hrv hrl pc hl xt
  refine runs_fr ok.k46 rfl fun x hx => ?_
  refine ex_sound 30 _ _ _ _ ?_
  simp only [f46, c46, LU, ↓step_conv, ex, Ro, RoD, OpD, epk, epochs, Mv.hx, idsOK, bs, wmask, LK.isW, LK.isA, LK.isP, step, num, X.ev, List.cons_append, List.nil_append, ne_eq, Nat.reduceLT, Int.reduceLE, Int.reduceLT, Int.cast_ofNat_Int, Nat.reducePow, Nat.reduceAnd, Nat.reduceOr, Nat.reduceShiftRight, BEq.rfl, Int.reduceToNat, vpick, vopt, optInt, isInt, vbuild, vbuildOK, vcaps, vcapsOK, elems, elemsOK, List.length_cons, List.length_nil, hget, hset, hdel, hhas, padd, V.ok, V.get, V.set, V.fget, V.fhas, V.fset, noR, Z.v, Z.sz, if_true, if_false, ite_true, ite_false, cond_true, cond_false, reduceCtorEq, forall_const, Nat.reduceAdd, Nat.reduceMul, Nat.reduceSub, Nat.reduceBEq, Nat.reduceEqDiff, dropTo, List.map_cons, List.map_nil, List.filter_cons, List.filter_nil]
  refine call_runs (runs_Load ok) False [] [] List.nodup_nil (by simp) rfl (by simp) ⟨rfl, trivial⟩ trivial ?_
  rintro v H' k' ⟨rfl, rfl, rfl⟩
  refine ⟨⟨by omega, fun h => h.elim⟩, ?_⟩
  have hnum : nums [] 32 1 = [32] := rfl
  simp only [hnum, tup2, LN, V.ren, renH, hrest, hdel, ren_lvV, List.getElem?_cons_zero, List.getElem?_cons_succ, List.append_nil, List.nil_append, List.cons_append, ne_eq, if_false, if_true, Nat.reduceEqDiff, reduceCtorEq]
  simp only [LU, ↓step_conv, ex, Ro, RoD, OpD, epk, epochs, Mv.hx, idsOK, bs, wmask, LK.isW, LK.isA, LK.isP, step, num, X.ev, List.cons_append, List.nil_append, ne_eq, Nat.reduceLT, Int.reduceLE, Int.reduceLT, Int.cast_ofNat_Int, Nat.reducePow, Nat.reduceAnd, Nat.reduceOr, Nat.reduceShiftRight, BEq.rfl, Int.reduceToNat, vpick, vopt, optInt, isInt, vbuild, vbuildOK, vcaps, vcapsOK, elems, elemsOK, List.length_cons, List.length_nil, hget, hset, hdel, hhas, padd, V.ok, V.get, V.set, V.fget, V.fhas, V.fset, noR, Z.v, Z.sz, if_true, if_false, ite_true, ite_false, cond_true, cond_false, reduceCtorEq, forall_const, Nat.reduceAdd, Nat.reduceMul, Nat.reduceSub, Nat.reduceBEq, Nat.reduceEqDiff, dropTo, List.map_cons, List.map_nil, List.filter_cons, List.filter_nil]
  refine call_runs (runs_refLoad ok) False [] [] List.nodup_nil (by simp) rfl (by simp) ⟨rfl, trivial⟩ trivial ?_
  rintro v H' k' ⟨rfl, rfl, rfl⟩
  refine ⟨⟨by omega, fun h => h.elim⟩, ?_⟩
  have hnum : nums [] 128 3 = [128, 129, 130] := rfl
  simp only [hnum, refm, mach, LN, V.ren, renH, hrest, hdel, ren_lvV, List.getElem?_cons_zero, List.getElem?_cons_succ, List.append_nil, List.nil_append, List.cons_append, ne_eq, if_false, if_true, Nat.reduceEqDiff, reduceCtorEq]
  simp (maxSteps := 2000000) only [eqP_in, eqP_mn, eqP_nn, eqP_pn, eqV_in, eqV_mn, eqV_nn, eqV_pn, LU, ↓step_conv, ex, Ro, RoD, OpD, epk, epochs, Mv.hx, idsOK, bs, wmask, LK.isW, LK.isA, LK.isP, step, num, X.ev, List.cons_append, List.nil_append, ne_eq, Nat.reduceLT, Int.reduceLE, Int.reduceLT, Int.cast_ofNat_Int, Nat.reducePow, Nat.reduceAnd, Nat.reduceOr, Nat.reduceShiftRight, BEq.rfl, Int.reduceToNat, vpick, vopt, optInt, isInt, vbuild, vbuildOK, vcaps, vcapsOK, elems, elemsOK, List.length_cons, List.length_nil, hget, hset, hdel, hhas, padd, V.ok, V.get, V.set, V.fget, V.fhas, V.fset, noR, Z.v, Z.sz, if_true, if_false, ite_true, ite_false, cond_true, cond_false, reduceCtorEq, forall_const, Nat.reduceAdd, Nat.reduceMul, Nat.reduceSub, Nat.reduceBEq, Nat.reduceEqDiff, dropTo, List.map_cons, List.map_nil, List.filter_cons, List.filter_nil]
  have hrvS : ∀ H m z, SimV H m z rv rv := by
    intro H m z
    rcases hrv with h | ⟨h, _⟩ <;> subst h
    · simp only [wordsV, SimV_lst, Sim, true_and, ws_at, Sim_W, implies_true]
    · simp only [SimV_nils, Sim]
  have key : ∀ n, cs.length = n → (cv = .lst 2 n (fun j => cellV (cs.getD j (0, 0))) ∨ (cv = .nils ∧ n = 0)) := by
    rintro n rfl
    rcases hcv with h | ⟨h, h2⟩
    · exact .inl h
    · exact .inr ⟨h, by rw [h2]; rfl⟩
  rcases key _ rfl with h | ⟨h, h0⟩
  · subst h
    simp (maxSteps := 2000000) only [eqP_in, eqP_mn, eqP_nn, eqP_pn, eqV_in, eqV_mn, eqV_nn, eqV_pn, LU, ↓step_conv, ex, Ro, RoD, OpD, epk, epochs, Mv.hx, idsOK, bs, wmask, LK.isW, LK.isA, LK.isP, step, num, X.ev, List.cons_append, List.nil_append, ne_eq, Nat.reduceLT, Int.reduceLE, Int.reduceLT, Int.cast_ofNat_Int, Nat.reducePow, Nat.reduceAnd, Nat.reduceOr, Nat.reduceShiftRight, BEq.rfl, Int.reduceToNat, vpick, vopt, optInt, isInt, vbuild, vbuildOK, vcaps, vcapsOK, elems, elemsOK, List.length_cons, List.length_nil, hget, hset, hdel, hhas, padd, V.ok, V.get, V.set, V.fget, V.fhas, V.fset, noR, Z.v, Z.sz, if_true, if_false, ite_true, ite_false, cond_true, cond_false, reduceCtorEq, forall_const, Nat.reduceAdd, Nat.reduceMul, Nat.reduceSub, Nat.reduceBEq, Nat.reduceEqDiff, dropTo, List.map_cons, List.map_nil, List.filter_cons, List.filter_nil]
    refine loop_rule (σ := Nat) (fun q => q ≤ cs.length ∧ q ≤ 100) (fun q => fr 111 [(1, rv), (2, W pc), (3, W xt), (4, .bool hl), (12, .ptr 0 []), (14, .ptr 1 []), (30, .lst 2 cs.length (fun j => cellV (cs.getD j (0, 0)))), (31, .int .i64 cs.length), (32, .int .i64 q)])
      (fun q => laidH (memF cs q) (fun _ => 0) 0 false 0 0) (fun _ => 4) (fun q => cs.length - q) 0 (by omega) ?_ ?_
    · refine Weak.fr [32, 128, 129, 130] [] hx (by simp only [fr_length]) (by decide) ?_ ?_
      · simp only [LT, SimL, ne_eq, Nat.reduceLT, SimA, Sim, SimH, frz, hget, hhas, List.getElem?_cons_zero, List.getElem?_cons_succ, List.getElem?_nil, BEq.rfl, if_true, reduceCtorEq, Option.some.injEq, Nat.reduceEqDiff, if_false, List.contains_cons, List.contains_nil, V.ok, V.get, V.fget, V.fhas, Nat.reduceLeDiff, implies_true, Nat.reduceBEq, Int.cast_ofNat_Int, hrvS, cellV]
      · simp only [LT, SimL, ne_eq, Nat.reduceLT, SimA, Sim, SimH, frz, hget, hhas, List.getElem?_cons_zero, List.getElem?_cons_succ, List.getElem?_nil, BEq.rfl, if_true, reduceCtorEq, Option.some.injEq, Nat.reduceEqDiff, if_false, List.contains_cons, List.contains_nil, V.ok, V.get, V.fget, V.fhas, Nat.reduceLeDiff, implies_true, Nat.reduceBEq, Int.cast_ofNat_Int, laidH, mach, refm, memF]
    · intro q ⟨hq, hq2⟩
      by_cases hlt : q < cs.length
      · have d0 : decide ((q : Int) < cs.length) = true := decide_eq_true (by omega)
        (refine ex_sound 5 _ _ _ _ ?_; simp (maxSteps := 2000000) only [d0, laidH, mach, refm, cellV, eqP_in, eqP_mn, eqP_nn, eqP_pn, eqV_in, eqV_mn, eqV_nn, eqV_pn, LU, ↓step_conv, ex, Ro, RoD, OpD, epk, epochs, Mv.hx, idsOK, bs, wmask, LK.isW, LK.isA, LK.isP, step, num, X.ev, List.cons_append, List.nil_append, ne_eq, Nat.reduceLT, Int.reduceLE, Int.reduceLT, Int.cast_ofNat_Int, Nat.reducePow, Nat.reduceAnd, Nat.reduceOr, Nat.reduceShiftRight, BEq.rfl, Int.reduceToNat, vpick, vopt, optInt, isInt, vbuild, vbuildOK, vcaps, vcapsOK, elems, elemsOK, List.length_cons, List.length_nil, hget, hset, hdel, hhas, padd, V.ok, V.get, V.set, V.fget, V.fhas, V.fset, noR, Z.v, Z.sz, if_true, if_false, ite_true, ite_false, cond_true, cond_false, reduceCtorEq, forall_const, Nat.reduceAdd, Nat.reduceMul, Nat.reduceSub, Nat.reduceBEq, Nat.reduceEqDiff, dropTo, List.map_cons, List.map_nil, List.filter_cons, List.filter_nil])
        by_cases h100 : q < 100
        · have d1 : decide ((100 : Int) ≤ q) = false := decide_eq_false (by omega)
          (refine ex_sound 40 _ _ _ _ ?_; simp (maxSteps := 2000000) only [d0, d1, laidH, mach, refm, cellV, eqP_in, eqP_mn, eqP_nn, eqP_pn, eqV_in, eqV_mn, eqV_nn, eqV_pn, LU, ↓step_conv, ex, Ro, RoD, OpD, epk, epochs, Mv.hx, idsOK, bs, wmask, LK.isW, LK.isA, LK.isP, step, num, X.ev, List.cons_append, List.nil_append, ne_eq, Nat.reduceLT, Int.reduceLE, Int.reduceLT, Int.cast_ofNat_Int, Nat.reducePow, Nat.reduceAnd, Nat.reduceOr, Nat.reduceShiftRight, BEq.rfl, Int.reduceToNat, vpick, vopt, optInt, isInt, vbuild, vbuildOK, vcaps, vcapsOK, elems, elemsOK, List.length_cons, List.length_nil, hget, hset, hdel, hhas, padd, V.ok, V.get, V.set, V.fget, V.fhas, V.fset, noR, Z.v, Z.sz, if_true, if_false, ite_true, ite_false, cond_true, cond_false, reduceCtorEq, forall_const, Nat.reduceAdd, Nat.reduceMul, Nat.reduceSub, Nat.reduceBEq, Nat.reduceEqDiff, dropTo, List.map_cons, List.map_nil, List.filter_cons, List.filter_nil])
          have e1 : ((cs.getD q (0, 0)).fst.toNat : Int).tmod 8192 = (((cs.getD q (0, 0)).fst.toNat % 8192 : Nat) : Int) := by rw [Int.tmod_eq_emod_of_nonneg (by omega)]; omega
          have w1 : IntKind.i64.wrap ((q : Int) + 1) = ((q + 1 : Nat) : Int) := by rw [wrap_i64 (by omega)]; omega
          simp only [e1, w1, Int.toNat_natCast]
          refine ⟨by omega, by omega, by omega, by omega, by omega, by omega, by omega, q + 1, by omega, by omega, ?_⟩
          refine Weak.fr [0, 1, 2, 3] [] hx (by simp only [fr_length]) (by decide) ?_ ?_
          · simp only [LT, SimL, ne_eq, Nat.reduceLT, SimA, Sim, SimH, frz, hget, hhas, List.getElem?_cons_zero, List.getElem?_cons_succ, List.getElem?_nil, BEq.rfl, if_true, reduceCtorEq, Option.some.injEq, Nat.reduceEqDiff, if_false, List.contains_cons, List.contains_nil, V.ok, V.get, V.fget, V.fhas, Nat.reduceLeDiff, implies_true, Nat.reduceBEq, Int.cast_ofNat_Int, hrvS]
          · simp only [LT, SimL, ne_eq, Nat.reduceLT, SimA, Sim, SimH, frz, hget, hhas, List.getElem?_cons_zero, List.getElem?_cons_succ, List.getElem?_nil, BEq.rfl, if_true, reduceCtorEq, Option.some.injEq, Nat.reduceEqDiff, if_false, List.contains_cons, List.contains_nil, V.ok, V.get, V.fget, V.fhas, Nat.reduceLeDiff, implies_true, Nat.reduceBEq, Int.cast_ofNat_Int, memF]
        · have d1 : decide ((100 : Int) ≤ q) = true := decide_eq_true (by omega)
          (refine ex_sound 9 _ _ _ _ ?_; simp (maxSteps := 2000000) only [d0, d1, laidH, mach, refm, cellV, eqP_in, eqP_mn, eqP_nn, eqP_pn, eqV_in, eqV_mn, eqV_nn, eqV_pn, LU, ↓step_conv, ex, Ro, RoD, OpD, epk, epochs, Mv.hx, idsOK, bs, wmask, LK.isW, LK.isA, LK.isP, step, num, X.ev, List.cons_append, List.nil_append, ne_eq, Nat.reduceLT, Int.reduceLE, Int.reduceLT, Int.cast_ofNat_Int, Nat.reducePow, Nat.reduceAnd, Nat.reduceOr, Nat.reduceShiftRight, BEq.rfl, Int.reduceToNat, vpick, vopt, optInt, isInt, vbuild, vbuildOK, vcaps, vcapsOK, elems, elemsOK, List.length_cons, List.length_nil, hget, hset, hdel, hhas, padd, V.ok, V.get, V.set, V.fget, V.fhas, V.fset, noR, Z.v, Z.sz, if_true, if_false, ite_true, ite_false, cond_true, cond_false, reduceCtorEq, forall_const, Nat.reduceAdd, Nat.reduceMul, Nat.reduceSub, Nat.reduceBEq, Nat.reduceEqDiff, dropTo, List.map_cons, List.map_nil, List.filter_cons, List.filter_nil])
          have hqe : q = min cs.length 100 := by omega
          refine ⟨by omega, SemK.weak _ _ _ ?_ (tail hx)⟩
          rw [← hqe]
          refine Weak.fr [0, 1, 2, 3] [] hx (by simp only [fr_length]) (by decide) ?_ ?_
          · simp only [LT, SimL, ne_eq, Nat.reduceLT, SimA, Sim, SimH, frz, hget, hhas, List.getElem?_cons_zero, List.getElem?_cons_succ, List.getElem?_nil, BEq.rfl, if_true, reduceCtorEq, Option.some.injEq, Nat.reduceEqDiff, if_false, List.contains_cons, List.contains_nil, V.ok, V.get, V.fget, V.fhas, Nat.reduceLeDiff, implies_true, Nat.reduceBEq, Int.cast_ofNat_Int, hrvS]
          · simp only [LT, SimL, ne_eq, Nat.reduceLT, SimA, Sim, SimH, frz, hget, hhas, List.getElem?_cons_zero, List.getElem?_cons_succ, List.getElem?_nil, BEq.rfl, if_true, reduceCtorEq, Option.some.injEq, Nat.reduceEqDiff, if_false, List.contains_cons, List.contains_nil, V.ok, V.get, V.fget, V.fhas, Nat.reduceLeDiff, implies_true, Nat.reduceBEq, Int.cast_ofNat_Int, laidH, mach, refm]
      · have d0 : decide ((q : Int) < cs.length) = false := decide_eq_false (by omega)
        (refine ex_sound 5 _ _ _ _ ?_; simp (maxSteps := 2000000) only [d0, laidH, mach, refm, cellV, eqP_in, eqP_mn, eqP_nn, eqP_pn, eqV_in, eqV_mn, eqV_nn, eqV_pn, LU, ↓step_conv, ex, Ro, RoD, OpD, epk, epochs, Mv.hx, idsOK, bs, wmask, LK.isW, LK.isA, LK.isP, step, num, X.ev, List.cons_append, List.nil_append, ne_eq, Nat.reduceLT, Int.reduceLE, Int.reduceLT, Int.cast_ofNat_Int, Nat.reducePow, Nat.reduceAnd, Nat.reduceOr, Nat.reduceShiftRight, BEq.rfl, Int.reduceToNat, vpick, vopt, optInt, isInt, vbuild, vbuildOK, vcaps, vcapsOK, elems, elemsOK, List.length_cons, List.length_nil, hget, hset, hdel, hhas, padd, V.ok, V.get, V.set, V.fget, V.fhas, V.fset, noR, Z.v, Z.sz, if_true, if_false, ite_true, ite_false, cond_true, cond_false, reduceCtorEq, forall_const, Nat.reduceAdd, Nat.reduceMul, Nat.reduceSub, Nat.reduceBEq, Nat.reduceEqDiff, dropTo, List.map_cons, List.map_nil, List.filter_cons, List.filter_nil])
        have hqe : q = min cs.length 100 := by omega
        refine SemK.weak _ _ _ ?_ (tail hx)
        rw [← hqe]
        refine Weak.fr [0, 1, 2, 3] [] hx (by simp only [fr_length]) (by decide) ?_ ?_
        · simp only [LT, SimL, ne_eq, Nat.reduceLT, SimA, Sim, SimH, frz, hget, hhas, List.getElem?_cons_zero, List.getElem?_cons_succ, List.getElem?_nil, BEq.rfl, if_true, reduceCtorEq, Option.some.injEq, Nat.reduceEqDiff, if_false, List.contains_cons, List.contains_nil, V.ok, V.get, V.fget, V.fhas, Nat.reduceLeDiff, implies_true, Nat.reduceBEq, Int.cast_ofNat_Int, hrvS]
        · simp only [LT, SimL, ne_eq, Nat.reduceLT, SimA, Sim, SimH, frz, hget, hhas, List.getElem?_cons_zero, List.getElem?_cons_succ, List.getElem?_nil, BEq.rfl, if_true, reduceCtorEq, Option.some.injEq, Nat.reduceEqDiff, if_false, List.contains_cons, List.contains_nil, V.ok, V.get, V.fget, V.fhas, Nat.reduceLeDiff, implies_true, Nat.reduceBEq, Int.cast_ofNat_Int, laidH, mach, refm]
  · subst h
    simp (maxSteps := 2000000) only [eqP_in, eqP_mn, eqP_nn, eqP_pn, eqV_in, eqV_mn, eqV_nn, eqV_pn, LU, ↓step_conv, ex, Ro, RoD, OpD, epk, epochs, Mv.hx, idsOK, bs, wmask, LK.isW, LK.isA, LK.isP, step, num, X.ev, List.cons_append, List.nil_append, ne_eq, Nat.reduceLT, Int.reduceLE, Int.reduceLT, Int.cast_ofNat_Int, Nat.reducePow, Nat.reduceAnd, Nat.reduceOr, Nat.reduceShiftRight, BEq.rfl, Int.reduceToNat, vpick, vopt, optInt, isInt, vbuild, vbuildOK, vcaps, vcapsOK, elems, elemsOK, List.length_cons, List.length_nil, hget, hset, hdel, hhas, padd, V.ok, V.get, V.set, V.fget, V.fhas, V.fset, noR, Z.v, Z.sz, if_true, if_false, ite_true, ite_false, cond_true, cond_false, reduceCtorEq, forall_const, Nat.reduceAdd, Nat.reduceMul, Nat.reduceSub, Nat.reduceBEq, Nat.reduceEqDiff, dropTo, List.map_cons, List.map_nil, List.filter_cons, List.filter_nil]
    refine loop_once ?_
    have d0 : decide ((0 : Int) < 0) = false := rfl
    (refine ex_sound 5 _ _ _ _ ?_; simp (maxSteps := 2000000) only [d0, eqP_in, eqP_mn, eqP_nn, eqP_pn, eqV_in, eqV_mn, eqV_nn, eqV_pn, LU, ↓step_conv, ex, Ro, RoD, OpD, epk, epochs, Mv.hx, idsOK, bs, wmask, LK.isW, LK.isA, LK.isP, step, num, X.ev, List.cons_append, List.nil_append, ne_eq, Nat.reduceLT, Int.reduceLE, Int.reduceLT, Int.cast_ofNat_Int, Nat.reducePow, Nat.reduceAnd, Nat.reduceOr, Nat.reduceShiftRight, BEq.rfl, Int.reduceToNat, vpick, vopt, optInt, isInt, vbuild, vbuildOK, vcaps, vcapsOK, elems, elemsOK, List.length_cons, List.length_nil, hget, hset, hdel, hhas, padd, V.ok, V.get, V.set, V.fget, V.fhas, V.fset, noR, Z.v, Z.sz, if_true, if_false, ite_true, ite_false, cond_true, cond_false, reduceCtorEq, forall_const, Nat.reduceAdd, Nat.reduceMul, Nat.reduceSub, Nat.reduceBEq, Nat.reduceEqDiff, dropTo, List.map_cons, List.map_nil, List.filter_cons, List.filter_nil])
    refine SemK.weak _ _ _ ?_ (tail hx)
    have hz : min cs.length 100 = 0 := by omega
    rw [hz]
    refine Weak.fr [32, 128, 129, 130] [] hx (by simp only [fr_length]) (by decide) ?_ ?_
    · simp only [LT, SimL, ne_eq, Nat.reduceLT, SimA, Sim, SimH, frz, hget, hhas, List.getElem?_cons_zero, List.getElem?_cons_succ, List.getElem?_nil, BEq.rfl, if_true, reduceCtorEq, Option.some.injEq, Nat.reduceEqDiff, if_false, List.contains_cons, List.contains_nil, V.ok, V.get, V.fget, V.fhas, Nat.reduceLeDiff, implies_true, Nat.reduceBEq, Int.cast_ofNat_Int, hrvS]
    · simp only [LT, SimL, ne_eq, Nat.reduceLT, SimA, Sim, SimH, frz, hget, hhas, List.getElem?_cons_zero, List.getElem?_cons_succ, List.getElem?_nil, BEq.rfl, if_true, reduceCtorEq, Option.some.injEq, Nat.reduceEqDiff, if_false, List.contains_cons, List.contains_nil, V.ok, V.get, V.fget, V.fhas, Nat.reduceLeDiff, implies_true, Nat.reduceBEq, Int.cast_ofNat_Int, laidH, mach, refm, memF]
end Mv
