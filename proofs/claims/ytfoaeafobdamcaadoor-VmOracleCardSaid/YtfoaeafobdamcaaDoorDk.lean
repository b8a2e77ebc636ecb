/- laid: a machine with cells, registers; the document's. -/
import Derived.Test.YtfoaeafobdamcaaDoorDh
set_option linter.unusedSimpArgs false
set_option linter.unusedVariables false
namespace Mv
open Go
set_option maxRecDepth 20000
set_option maxHeartbeats 4000000
set_option linter.unusedSimpArgs false

def cellV (c : BitVec 64 × BitVec 64) : V := .st 2 (.fcons 0 (W c.1) (.fcons 1 (W c.2) .fnil))
def cellsV (cs : List (BitVec 64 × BitVec 64)) : V := .lst 2 cs.length (fun j => cellV (cs.getD j (0, 0)))
def wordsV (rs : List (BitVec 64)) : V := .lst 1 rs.length (ws rs)
/-- The memory behind so many cells. -/
def memF (cs : List (BitVec 64 × BitVec 64)) : Nat → Nat → BitVec 64
  | 0, _ => 0
  | q + 1, j => if j = (cs.getD q (0, 0)).1.toNat % 8192 then (cs.getD q (0, 0)).2 else memF cs q j
def regF (rs : List (BitVec 64)) (i j : Nat) : BitVec 64 := if j < i then rs.getD j 0 else 0

def laidH (f g : Nat → BitVec 64) (pc : BitVec 64) (hl : Bool) (xt : BitVec 64) (m : Nat) : Hp :=
  [(m, mach f g pc hl xt), (m + 1, refm (m + 2) (m + 3) pc hl xt), (m + 2, .ar 1 8192 (fun j => W (f j))), (m + 3, .ar 1 16 (fun j => W (g j)))]

def laidT : LC := (.seq ((.seq (.reg [⟨(some 59), .lo (.mv (.t 1)), none⟩,
  ⟨(some 60), .lo (.len 0 (.t 59)), none⟩,
  ⟨(some 61), .lo (.mm false (.c (.int .i64 16)) (.t 60)), none⟩,
  ⟨(some 62), .lo (.mv (.c (.int .i64 0))), none⟩])
 (.block 2 (.loop ((.seq (.reg [⟨(some 63), .lo (.ari .lss (.t 62) (.t 61)), none⟩])
 ((.seq (.cond (.t 63) (.skip) (.exit 2))
 ((.seq (.block 3 ((.seq (.reg [⟨(some 64), .lo (.mv (.t 62)), none⟩,
  ⟨(some 17), .lo (.mv (.t 64)), none⟩])
 (.regd [⟨0, 0, ⟨(some 65), .lo (.mv (.t 12)), none⟩⟩,
  ⟨1, 0, ⟨(some 66), .lo (.mv (.t 17)), none⟩⟩,
  ⟨2, 0, ⟨(some 67), .lo (.mv (.t 14)), none⟩⟩,
  ⟨3, 4, ⟨(some 68), .lo (.nilc (.t 67)), none⟩⟩,
  ⟨4, 12, ⟨(some 69), .lo (.fadr 1 (.t 68)), none⟩⟩,
  ⟨5, 28, ⟨(some 70), .lo (.load false 1 (.t 69)), none⟩⟩,
  ⟨7, 0, ⟨(some 72), .lo (.mv (.t 1)), none⟩⟩,
  ⟨8, 0, ⟨(some 73), .lo (.mv (.t 17)), none⟩⟩,
  ⟨9, 192, ⟨(some 74), .lo (.isl 1 (.t 72) (.t 73)), none⟩⟩,
  ⟨10, 448, ⟨(some 75), .lo (.load false 1 (.t 74)), none⟩⟩,
  ⟨11, 0, ⟨(some 76), .lo (.mv (.t 1)), none⟩⟩,
  ⟨12, 0, ⟨(some 77), .lo (.mv (.t 17)), none⟩⟩,
  ⟨13, 3072, ⟨(some 78), .lo (.isl 1 (.t 76) (.t 77)), none⟩⟩,
  ⟨14, 7168, ⟨(some 79), .lo (.load false 1 (.t 78)), none⟩⟩,
  ⟨15, 1, ⟨(some 80), .lo (.nilc (.t 65)), none⟩⟩,
  ⟨16, 16385, ⟨(some 81), .lo (.fadr 8192 (.t 80)), none⟩⟩,
  ⟨17, 65535, ⟨(some 82), .lo (.iarr 16 1 (.t 81) (.t 66)), none⟩⟩,
  ⟨18, 131071, ⟨none, .lo (.store 1 (.t 82) (.t 75)), none⟩⟩,
  ⟨6, 0, ⟨(some 71), .lo (.mv (.t 17)), none⟩⟩,
  ⟨19, 524287, ⟨(some 83), .lo (.isl 1 (.t 70) (.t 71)), none⟩⟩,
  ⟨20, 1048575, ⟨none, .lo (.store 1 (.t 83) (.t 79)), none⟩⟩]))))
 (.reg [⟨(some 84), .lo (.ari .add (.t 62) (.c (.int .i64 1))), none⟩,
  ⟨(some 62), .lo (.mv (.t 84)), none⟩])))))))))))
 ((.seq (.reg [⟨(some 85), .lo (.mv (.t 12)), none⟩,
  ⟨(some 86), .lo (.mv (.t 12)), none⟩,
  ⟨(some 87), .lo (.mv (.t 12)), none⟩,
  ⟨(some 88), .lo (.mv (.t 2)), none⟩,
  ⟨(some 89), .lo (.mv (.t 3)), none⟩,
  ⟨(some 90), .lo (.mv (.t 4)), none⟩,
  ⟨(some 91), .lo (.nilc (.t 85)), none⟩,
  ⟨(some 92), .lo (.fadr 8208 (.t 91)), none⟩,
  ⟨none, .lo (.store 1 (.t 92) (.t 88)), none⟩,
  ⟨(some 93), .lo (.nilc (.t 86)), none⟩,
  ⟨(some 94), .lo (.fadr 8210 (.t 93)), none⟩,
  ⟨none, .lo (.store 1 (.t 94) (.t 89)), none⟩,
  ⟨(some 95), .lo (.nilc (.t 87)), none⟩,
  ⟨(some 96), .lo (.fadr 8209 (.t 95)), none⟩,
  ⟨none, .lo (.store 1 (.t 96) (.t 90)), none⟩])
 ((.seq (.reg [⟨(some 97), .lo (.mv (.t 14)), none⟩,
  ⟨(some 98), .lo (.mv (.t 14)), none⟩,
  ⟨(some 99), .lo (.mv (.t 14)), none⟩,
  ⟨(some 100), .lo (.mv (.t 2)), none⟩,
  ⟨(some 101), .lo (.mv (.t 3)), none⟩,
  ⟨(some 102), .lo (.mv (.t 4)), none⟩,
  ⟨(some 103), .lo (.nilc (.t 97)), none⟩,
  ⟨(some 104), .lo (.fadr 2 (.t 103)), none⟩,
  ⟨none, .lo (.store 1 (.t 104) (.t 100)), none⟩,
  ⟨(some 105), .lo (.nilc (.t 98)), none⟩,
  ⟨(some 106), .lo (.fadr 4 (.t 105)), none⟩,
  ⟨none, .lo (.store 1 (.t 106) (.t 101)), none⟩,
  ⟨(some 107), .lo (.nilc (.t 99)), none⟩,
  ⟨(some 108), .lo (.fadr 3 (.t 107)), none⟩,
  ⟨none, .lo (.store 1 (.t 108) (.t 102)), none⟩])
 ((.seq (.reg [⟨(some 109), .lo (.mv (.t 12)), none⟩,
  ⟨(some 110), .lo (.mv (.t 14)), none⟩,
  ⟨(some 10), .lo (.mv (.t 109)), none⟩,
  ⟨(some 11), .lo (.mv (.t 110)), none⟩])
 (.ret))))))))
abbrev LaidQ (cs : List (BitVec 64 × BitVec 64)) (rs : List (BitVec 64)) (pc : BitVec 64) (hl : Bool) (xt : BitVec 64) : V → Hp → Nat → Prop := fun r H' k' =>
  r = tup2 (.ptr 0 []) (.ptr 1 []) ∧ H' = laidH (memF cs (min cs.length 100)) (regF rs (min rs.length 16)) pc hl xt 0 ∧ k' = 4

theorem laid_tail {M : Seat} {x : Ctx} (ok : OkA M) (hx : x.k = 0) (cs : List (BitVec 64 × BitVec 64)) (rs : List (BitVec 64)) (rv : V) (hrv : rv = wordsV rs ∨ (rv = .nils ∧ rs = [])) (hrl : rs.length < 9223372036854775808) (pc : BitVec 64) (hl : Bool) (xt : BitVec 64) :
    SemK M x (RetS M x [.tmp 10, .tmp 11] (LaidQ cs rs pc hl xt)) [.code laidT] 4 (fr 111 [(1, rv), (2, W pc), (3, W xt), (4, .bool hl), (12, .ptr 0 []), (14, .ptr 1 [])])
      (laidH (memF cs (min cs.length 100)) (fun _ => 0) 0 false 0 0) := by
  generalize hf : memF cs (min cs.length 100) = f
  have w0 : (if (rs.length : Int) < 16 then (rs.length : Int) else 16) = ((min rs.length 16 : Nat) : Int) := by split <;> omega
  have fin : ∀ n, n = min rs.length 16 → ∀ j, regF rs n j = regF rs (min rs.length 16) j := by rintro n rfl j; rfl
  rcases hrv with h | ⟨h, h0⟩
  · subst h
    (refine ex_sound 40 _ _ _ _ ?_; simp (maxSteps := 2000000) only [laidT, wordsV, laidH, mach, refm, w0, eqP_in, eqP_mn, eqP_nn, eqP_pn, eqV_in, eqV_mn, eqV_nn, eqV_pn, LU, ↓step_conv, ex, Ro, RoD, OpD, epk, epochs, Mv.hx, idsOK, bs, wmask, LK.isW, LK.isA, LK.isP, step, num, X.ev, List.cons_append, List.nil_append, ne_eq, Nat.reduceLT, Int.reduceLE, Int.reduceLT, Int.cast_ofNat_Int, Nat.reducePow, Nat.reduceAnd, Nat.reduceOr, Nat.reduceShiftRight, BEq.rfl, Int.reduceToNat, vpick, vopt, optInt, isInt, vbuild, vbuildOK, vcaps, vcapsOK, elems, elemsOK, List.length_cons, List.length_nil, hget, hset, hdel, hhas, padd, V.ok, V.get, V.set, V.fget, V.fhas, V.fset, noR, Z.v, Z.sz, if_true, if_false, ite_true, ite_false, cond_true, cond_false, reduceCtorEq, forall_const, Nat.reduceAdd, Nat.reduceMul, Nat.reduceSub, Nat.reduceBEq, Nat.reduceEqDiff, dropTo, List.map_cons, List.map_nil, List.filter_cons, List.filter_nil])
    refine loop_rule (σ := Nat) (fun q => q ≤ min rs.length 16) (fun q => fr 111 [(1, wordsV rs), (2, W pc), (3, W xt), (4, .bool hl), (12, .ptr 0 []), (14, .ptr 1 []), (61, .int .i64 (min rs.length 16 : Nat)), (62, .int .i64 q)])
      (fun q => laidH f (regF rs q) 0 false 0 0) (fun _ => 4) (fun q => min rs.length 16 - q) 0 (by omega) ?_ ?_
    · refine Weak.fr [0, 1, 2, 3] [] hx (by simp only [fr_length]) (by decide) ?_ ?_
      · simp only [LT, SimL, ne_eq, Nat.reduceLT, SimA, Sim, SimH, frz, hget, hhas, List.getElem?_cons_zero, List.getElem?_cons_succ, List.getElem?_nil, BEq.rfl, if_true, reduceCtorEq, Option.some.injEq, Nat.reduceEqDiff, if_false, List.contains_cons, List.contains_nil, V.ok, V.get, V.fget, V.fhas, Nat.reduceLeDiff, implies_true, Nat.reduceBEq, Int.cast_ofNat_Int, wordsV]
      · simp only [LT, SimL, ne_eq, Nat.reduceLT, SimA, Sim, SimH, frz, hget, hhas, List.getElem?_cons_zero, List.getElem?_cons_succ, List.getElem?_nil, BEq.rfl, if_true, reduceCtorEq, Option.some.injEq, Nat.reduceEqDiff, if_false, List.contains_cons, List.contains_nil, V.ok, V.get, V.fget, V.fhas, Nat.reduceLeDiff, implies_true, Nat.reduceBEq, Int.cast_ofNat_Int, laidH, mach, refm, regF, Nat.not_lt_zero, if_false]
    · intro q hq
      have w1 : IntKind.i64.wrap ((q : Int) + 1) = ((q + 1 : Nat) : Int) := by rw [wrap_i64 (by omega)]; omega
      (refine ex_sound 40 _ _ _ _ ?_; simp (maxSteps := 2000000) only [wordsV, laidH, mach, refm, w1, eqP_in, eqP_mn, eqP_nn, eqP_pn, eqV_in, eqV_mn, eqV_nn, eqV_pn, LU, ↓step_conv, ex, Ro, RoD, OpD, epk, epochs, Mv.hx, idsOK, bs, wmask, LK.isW, LK.isA, LK.isP, step, num, X.ev, List.cons_append, List.nil_append, ne_eq, Nat.reduceLT, Int.reduceLE, Int.reduceLT, Int.cast_ofNat_Int, Nat.reducePow, Nat.reduceAnd, Nat.reduceOr, Nat.reduceShiftRight, BEq.rfl, Int.reduceToNat, vpick, vopt, optInt, isInt, vbuild, vbuildOK, vcaps, vcapsOK, elems, elemsOK, List.length_cons, List.length_nil, hget, hset, hdel, hhas, padd, V.ok, V.get, V.set, V.fget, V.fhas, V.fset, noR, Z.v, Z.sz, if_true, if_false, ite_true, ite_false, cond_true, cond_false, reduceCtorEq, forall_const, Nat.reduceAdd, Nat.reduceMul, Nat.reduceSub, Nat.reduceBEq, Nat.reduceEqDiff, dropTo, List.map_cons, List.map_nil, List.filter_cons, List.filter_nil])
      refine ⟨fun hlt => ?_, fun hge => ?_⟩
      · have hlt := of_decide_eq_true hlt
        refine ⟨by omega, by omega, by omega, by omega, by omega, by omega, q + 1, by omega, by omega, ?_⟩
        have hr : ∀ j, (if j = q then rs.getD q 0 else regF rs q j) = regF rs (q + 1) j := by
          intro j
          unfold regF
          by_cases h1 : j = q
          · rw [if_pos h1, if_pos (by omega), h1]
          · rw [if_neg h1]
            by_cases h2 : j < q
            · rw [if_pos h2, if_pos (by omega)]
            · rw [if_neg h2, if_neg (by omega)]
        refine Weak.fr [0, 1, 2, 3] [] hx (by simp only [fr_length]) (by decide) ?_ ?_
        · simp only [LT, SimL, ne_eq, Nat.reduceLT, SimA, Sim, SimH, frz, hget, hhas, List.getElem?_cons_zero, List.getElem?_cons_succ, List.getElem?_nil, BEq.rfl, if_true, reduceCtorEq, Option.some.injEq, Nat.reduceEqDiff, if_false, List.contains_cons, List.contains_nil, V.ok, V.get, V.fget, V.fhas, Nat.reduceLeDiff, implies_true, Nat.reduceBEq, Int.cast_ofNat_Int]
        · simp only [LT, SimL, ne_eq, Nat.reduceLT, SimA, Sim, SimH, frz, hget, hhas, List.getElem?_cons_zero, List.getElem?_cons_succ, List.getElem?_nil, BEq.rfl, if_true, reduceCtorEq, Option.some.injEq, Nat.reduceEqDiff, if_false, List.contains_cons, List.contains_nil, V.ok, V.get, V.fget, V.fhas, Nat.reduceLeDiff, implies_true, Nat.reduceBEq, Int.cast_ofNat_Int, hr]
      · have hge := of_decide_eq_false hge
        have hqe : q = min rs.length 16 := by omega
        subst hqe
        refine RetS.mk hx [0, 1, 2, 3] [] (tup2 (.ptr 0 []) (.ptr 1 [])) (laidH f (regF rs (min rs.length 16)) pc hl xt 0) 4 (by decide) ?_ ?_ ?_ ⟨rfl, by rw [hf], rfl⟩
        · simp only [res, resPs, resP, tupP, resV, LU, ↓step_conv, ex, Ro, RoD, OpD, epk, epochs, Mv.hx, idsOK, bs, wmask, LK.isW, LK.isA, LK.isP, step, num, X.ev, List.cons_append, List.nil_append, ne_eq, Nat.reduceLT, Int.reduceLE, Int.reduceLT, Int.cast_ofNat_Int, Nat.reducePow, Nat.reduceAnd, Nat.reduceOr, Nat.reduceShiftRight, BEq.rfl, Int.reduceToNat, vpick, vopt, optInt, isInt, vbuild, vbuildOK, vcaps, vcapsOK, elems, elemsOK, List.length_cons, List.length_nil, hget, hset, hdel, hhas, padd, V.ok, V.get, V.set, V.fget, V.fhas, V.fset, noR, Z.v, Z.sz, if_true, if_false, ite_true, ite_false, cond_true, cond_false, reduceCtorEq, forall_const, Nat.reduceAdd, Nat.reduceMul, Nat.reduceSub, Nat.reduceBEq, Nat.reduceEqDiff, dropTo, List.map_cons, List.map_nil, List.filter_cons, List.filter_nil]
        · simp only [res, resV, tupV, tup2, tup3, LU, ↓step_conv, ex, Ro, RoD, OpD, epk, epochs, Mv.hx, idsOK, bs, wmask, LK.isW, LK.isA, LK.isP, step, num, X.ev, List.cons_append, List.nil_append, ne_eq, Nat.reduceLT, Int.reduceLE, Int.reduceLT, Int.cast_ofNat_Int, Nat.reducePow, Nat.reduceAnd, Nat.reduceOr, Nat.reduceShiftRight, BEq.rfl, Int.reduceToNat, vpick, vopt, optInt, isInt, vbuild, vbuildOK, vcaps, vcapsOK, elems, elemsOK, List.length_cons, List.length_nil, hget, hset, hdel, hhas, padd, V.ok, V.get, V.set, V.fget, V.fhas, V.fset, noR, Z.v, Z.sz, if_true, if_false, ite_true, ite_false, cond_true, cond_false, reduceCtorEq, forall_const, Nat.reduceAdd, Nat.reduceMul, Nat.reduceSub, Nat.reduceBEq, Nat.reduceEqDiff, dropTo, List.map_cons, List.map_nil, List.filter_cons, List.filter_nil, LT, SimL, ne_eq, Nat.reduceLT, SimA, Sim, SimH, frz, hget, hhas, List.getElem?_cons_zero, List.getElem?_cons_succ, List.getElem?_nil, BEq.rfl, if_true, reduceCtorEq, Option.some.injEq, Nat.reduceEqDiff, if_false, List.contains_cons, List.contains_nil, V.ok, V.get, V.fget, V.fhas, Nat.reduceLeDiff, implies_true, Nat.reduceBEq, Int.cast_ofNat_Int, dg]
        · simp only [laidH, mach, refm, LT, SimL, ne_eq, Nat.reduceLT, SimA, Sim, SimH, frz, hget, hhas, List.getElem?_cons_zero, List.getElem?_cons_succ, List.getElem?_nil, BEq.rfl, if_true, reduceCtorEq, Option.some.injEq, Nat.reduceEqDiff, if_false, List.contains_cons, List.contains_nil, V.ok, V.get, V.fget, V.fhas, Nat.reduceLeDiff, implies_true, Nat.reduceBEq, Int.cast_ofNat_Int]
  · subst h
    have d0 : decide ((0 : Int) < 0) = false := rfl
    have d1 : (if (0 : Int) < 16 then (0 : Int) else 16) = 0 := rfl
    (refine ex_sound 40 _ _ _ _ ?_; simp (maxSteps := 2000000) only [laidT, laidH, mach, refm, d1, eqP_in, eqP_mn, eqP_nn, eqP_pn, eqV_in, eqV_mn, eqV_nn, eqV_pn, LU, ↓step_conv, ex, Ro, RoD, OpD, epk, epochs, Mv.hx, idsOK, bs, wmask, LK.isW, LK.isA, LK.isP, step, num, X.ev, List.cons_append, List.nil_append, ne_eq, Nat.reduceLT, Int.reduceLE, Int.reduceLT, Int.cast_ofNat_Int, Nat.reducePow, Nat.reduceAnd, Nat.reduceOr, Nat.reduceShiftRight, BEq.rfl, Int.reduceToNat, vpick, vopt, optInt, isInt, vbuild, vbuildOK, vcaps, vcapsOK, elems, elemsOK, List.length_cons, List.length_nil, hget, hset, hdel, hhas, padd, V.ok, V.get, V.set, V.fget, V.fhas, V.fset, noR, Z.v, Z.sz, if_true, if_false, ite_true, ite_false, cond_true, cond_false, reduceCtorEq, forall_const, Nat.reduceAdd, Nat.reduceMul, Nat.reduceSub, Nat.reduceBEq, Nat.reduceEqDiff, dropTo, List.map_cons, List.map_nil, List.filter_cons, List.filter_nil])
    refine loop_once ?_
    (refine ex_sound 40 _ _ _ _ ?_; simp (maxSteps := 2000000) only [d0, eqP_in, eqP_mn, eqP_nn, eqP_pn, eqV_in, eqV_mn, eqV_nn, eqV_pn, LU, ↓step_conv, ex, Ro, RoD, OpD, epk, epochs, Mv.hx, idsOK, bs, wmask, LK.isW, LK.isA, LK.isP, step, num, X.ev, List.cons_append, List.nil_append, ne_eq, Nat.reduceLT, Int.reduceLE, Int.reduceLT, Int.cast_ofNat_Int, Nat.reducePow, Nat.reduceAnd, Nat.reduceOr, Nat.reduceShiftRight, BEq.rfl, Int.reduceToNat, vpick, vopt, optInt, isInt, vbuild, vbuildOK, vcaps, vcapsOK, elems, elemsOK, List.length_cons, List.length_nil, hget, hset, hdel, hhas, padd, V.ok, V.get, V.set, V.fget, V.fhas, V.fset, noR, Z.v, Z.sz, if_true, if_false, ite_true, ite_false, cond_true, cond_false, reduceCtorEq, forall_const, Nat.reduceAdd, Nat.reduceMul, Nat.reduceSub, Nat.reduceBEq, Nat.reduceEqDiff, dropTo, List.map_cons, List.map_nil, List.filter_cons, List.filter_nil])
    have hr : ∀ j, regF rs (min rs.length 16) j = 0 := by
      intro j; rw [h0]; simp [regF]
    refine RetS.mk hx [0, 1, 2, 3] [] (tup2 (.ptr 0 []) (.ptr 1 [])) (laidH f (regF rs (min rs.length 16)) pc hl xt 0) 4 (by decide) ?_ ?_ ?_ ⟨rfl, by rw [hf], rfl⟩
    · simp only [res, resPs, resP, tupP, resV, LU, ↓step_conv, ex, Ro, RoD, OpD, epk, epochs, Mv.hx, idsOK, bs, wmask, LK.isW, LK.isA, LK.isP, step, num, X.ev, List.cons_append, List.nil_append, ne_eq, Nat.reduceLT, Int.reduceLE, Int.reduceLT, Int.cast_ofNat_Int, Nat.reducePow, Nat.reduceAnd, Nat.reduceOr, Nat.reduceShiftRight, BEq.rfl, Int.reduceToNat, vpick, vopt, optInt, isInt, vbuild, vbuildOK, vcaps, vcapsOK, elems, elemsOK, List.length_cons, List.length_nil, hget, hset, hdel, hhas, padd, V.ok, V.get, V.set, V.fget, V.fhas, V.fset, noR, Z.v, Z.sz, if_true, if_false, ite_true, ite_false, cond_true, cond_false, reduceCtorEq, forall_const, Nat.reduceAdd, Nat.reduceMul, Nat.reduceSub, Nat.reduceBEq, Nat.reduceEqDiff, dropTo, List.map_cons, List.map_nil, List.filter_cons, List.filter_nil]
    · simp only [res, resV, tupV, tup2, tup3, LU, ↓step_conv, ex, Ro, RoD, OpD, epk, epochs, Mv.hx, idsOK, bs, wmask, LK.isW, LK.isA, LK.isP, step, num, X.ev, List.cons_append, List.nil_append, ne_eq, Nat.reduceLT, Int.reduceLE, Int.reduceLT, Int.cast_ofNat_Int, Nat.reducePow, Nat.reduceAnd, Nat.reduceOr, Nat.reduceShiftRight, BEq.rfl, Int.reduceToNat, vpick, vopt, optInt, isInt, vbuild, vbuildOK, vcaps, vcapsOK, elems, elemsOK, List.length_cons, List.length_nil, hget, hset, hdel, hhas, padd, V.ok, V.get, V.set, V.fget, V.fhas, V.fset, noR, Z.v, Z.sz, if_true, if_false, ite_true, ite_false, cond_true, cond_false, reduceCtorEq, forall_const, Nat.reduceAdd, Nat.reduceMul, Nat.reduceSub, Nat.reduceBEq, Nat.reduceEqDiff, dropTo, List.map_cons, List.map_nil, List.filter_cons, List.filter_nil, LT, SimL, ne_eq, Nat.reduceLT, SimA, Sim, SimH, frz, hget, hhas, List.getElem?_cons_zero, List.getElem?_cons_succ, List.getElem?_nil, BEq.rfl, if_true, reduceCtorEq, Option.some.injEq, Nat.reduceEqDiff, if_false, List.contains_cons, List.contains_nil, V.ok, V.get, V.fget, V.fhas, Nat.reduceLeDiff, implies_true, Nat.reduceBEq, Int.cast_ofNat_Int, dg]
    · simp only [laidH, mach, refm, hr, LT, SimL, ne_eq, Nat.reduceLT, SimA, Sim, SimH, frz, hget, hhas, List.getElem?_cons_zero, List.getElem?_cons_succ, List.getElem?_nil, BEq.rfl, if_true, reduceCtorEq, Option.some.injEq, Nat.reduceEqDiff, if_false, List.contains_cons, List.contains_nil, V.ok, V.get, V.fget, V.fhas, Nat.reduceLeDiff, implies_true, Nat.reduceBEq, Int.cast_ofNat_Int]

theorem runs_laid {M : Seat} (ok : OkA M) (cs : List (BitVec 64 × BitVec 64)) (cv : V) (hcv : cv = cellsV cs ∨ (cv = .nils ∧ cs = [])) (hcl : cs.length < 9223372036854775808) (rs : List (BitVec 64)) (rv : V) (hrv : rv = wordsV rs ∨ (rv = .nils ∧ rs = [])) (hrl : rs.length < 9223372036854775808) (pc : BitVec 64) (hl : Bool) (xt : BitVec 64) :
    Runs M 46 [cv, rv, W pc, W xt, .bool hl] [] 0 (LaidQ cs rs pc hl xt) := by
  have tail : ∀ {x : Ctx} (hx : x.k = 0), _ := fun hx => laid_tail ok hx cs rs rv hrv hrl pc hl xt
  refine runs_fr ok.k46 rfl fun x hx => ?_
  refine ex_sound 30 _ _ _ _ ?_
  simp only [f46, c46, LU, ↓step_conv, ex, Ro, RoD, OpD, epk, epochs, Mv.hx, idsOK, bs, wmask, LK.isW, LK.isA, LK.isP, step, num, X.ev, List.cons_append, List.nil_append, ne_eq, Nat.reduceLT, Int.reduceLE, Int.reduceLT, Int.cast_ofNat_Int, Nat.reducePow, Nat.reduceAnd, Nat.reduceOr, Nat.reduceShiftRight, BEq.rfl, Int.reduceToNat, vpick, vopt, optInt, isInt, vbuild, vbuildOK, vcaps, vcapsOK, elems, elemsOK, List.length_cons, List.length_nil, hget, hset, hdel, hhas, padd, V.ok, V.get, V.set, V.fget, V.fhas, V.fset, noR, Z.v, Z.sz, if_true, if_false, ite_true, ite_false, cond_true, cond_false, reduceCtorEq, forall_const, Nat.reduceAdd, Nat.reduceMul, Nat.reduceSub, Nat.reduceBEq, Nat.reduceEqDiff, dropTo, List.map_cons, List.map_nil, List.filter_cons, List.filter_nil]
  refine call_runs (runs_Load ok) False [] [] List.nodup_nil (by simp) rfl (by simp) ⟨rfl, trivial⟩ trivial ?_
  rintro v H' k' ⟨rfl, rfl, rfl⟩
  refine ⟨⟨by omega, fun h => h.elim⟩, ?_⟩
  have hnum : nums [] 32 1 = [32] := rfl
  simp only [hnum, tup2, LN, V.ren, renH, hrest, hdel, ren_lvV, List.getElem?_cons_zero, List.getElem?_cons_succ, List.append_nil, List.nil_append, List.cons_append, ne_eq, if_false, if_true, Nat.reduceEqDiff, reduceCtorEq]
  simp only [LU, ↓step_conv, ex, Ro, RoD, OpD, epk, epochs, Mv.hx, idsOK, bs, wmask, LK.isW, LK.isA, LK.isP, step, num, X.ev, List.cons_append, List.nil_append, ne_eq, Nat.reduceLT, Int.reduceLE, Int.reduceLT, Int.cast_ofNat_Int, Nat.reducePow, Nat.reduceAnd, Nat.reduceOr, Nat.reduceShiftRight, BEq.rfl, Int.reduceToNat, vpick, vopt, optInt, isInt, vbuild, vbuildOK, vcaps, vcapsOK, elems, elemsOK, List.length_cons, List.length_nil, hget, hset, hdel, hhas, padd, V.ok, V.get, V.set, V.fget, V.fhas, V.fset, noR, Z.v, Z.sz, if_true, if_false, ite_true, ite_false, cond_true, cond_false, reduceCtorEq, forall_const, Nat.reduceAdd, Nat.reduceMul, Nat.reduceSub, Nat.reduceBEq, Nat.reduceEqDiff, dropTo, List.map_cons, List.map_nil, List.filter_cons, List.filter_nil]
  refine call_runs (runs_refLoad ok) False [] [] List.nodup_nil (by simp) rfl (by simp) ⟨rfl, trivial⟩ trivial ?_
  rintro v H' k' ⟨rfl, rfl, rfl⟩
  refine ⟨⟨by omega, fun h => h.elim⟩, ?_⟩
  have hnum : nums [] 128 3 = [128, 129, 130] := rfl
  simp only [hnum, refm, mach, LN, V.ren, renH, hrest, hdel, ren_lvV, List.getElem?_cons_zero, List.getElem?_cons_succ, List.append_nil, List.nil_append, List.cons_append, ne_eq, if_false, if_true, Nat.reduceEqDiff, reduceCtorEq]
  simp (maxSteps := 2000000) only [eqP_in, eqP_mn, eqP_nn, eqP_pn, eqV_in, eqV_mn, eqV_nn, eqV_pn, LU, ↓step_conv, ex, Ro, RoD, OpD, epk, epochs, Mv.hx, idsOK, bs, wmask, LK.isW, LK.isA, LK.isP, step, num, X.ev, List.cons_append, List.nil_append, ne_eq, Nat.reduceLT, Int.reduceLE, Int.reduceLT, Int.cast_ofNat_Int, Nat.reducePow, Nat.reduceAnd, Nat.reduceOr, Nat.reduceShiftRight, BEq.rfl, Int.reduceToNat, vpick, vopt, optInt, isInt, vbuild, vbuildOK, vcaps, vcapsOK, elems, elemsOK, List.length_cons, List.length_nil, hget, hset, hdel, hhas, padd, V.ok, V.get, V.set, V.fget, V.fhas, V.fset, noR, Z.v, Z.sz, if_true, if_false, ite_true, ite_false, cond_true, cond_false, reduceCtorEq, forall_const, Nat.reduceAdd, Nat.reduceMul, Nat.reduceSub, Nat.reduceBEq, Nat.reduceEqDiff, dropTo, List.map_cons, List.map_nil, List.filter_cons, List.filter_nil]
  have hrvS : ∀ H m z, SimV H m z rv rv := by
    intro H m z
    rcases hrv with h | ⟨h, _⟩ <;> subst h
    · simp only [wordsV, SimV_lst, Sim, true_and, ws_at, Sim_W, implies_true]
    · simp only [SimV_nils, Sim]
  have key : ∀ n, cs.length = n → (cv = .lst 2 n (fun j => cellV (cs.getD j (0, 0))) ∨ (cv = .nils ∧ n = 0)) := by
    rintro n rfl
    rcases hcv with h | ⟨h, h2⟩
    · exact .inl h
    · exact .inr ⟨h, by rw [h2]; rfl⟩
  rcases key _ rfl with h | ⟨h, h0⟩
  · subst h
    simp (maxSteps := 2000000) only [eqP_in, eqP_mn, eqP_nn, eqP_pn, eqV_in, eqV_mn, eqV_nn, eqV_pn, LU, ↓step_conv, ex, Ro, RoD, OpD, epk, epochs, Mv.hx, idsOK, bs, wmask, LK.isW, LK.isA, LK.isP, step, num, X.ev, List.cons_append, List.nil_append, ne_eq, Nat.reduceLT, Int.reduceLE, Int.reduceLT, Int.cast_ofNat_Int, Nat.reducePow, Nat.reduceAnd, Nat.reduceOr, Nat.reduceShiftRight, BEq.rfl, Int.reduceToNat, vpick, vopt, optInt, isInt, vbuild, vbuildOK, vcaps, vcapsOK, elems, elemsOK, List.length_cons, List.length_nil, hget, hset, hdel, hhas, padd, V.ok, V.get, V.set, V.fget, V.fhas, V.fset, noR, Z.v, Z.sz, if_true, if_false, ite_true, ite_false, cond_true, cond_false, reduceCtorEq, forall_const, Nat.reduceAdd, Nat.reduceMul, Nat.reduceSub, Nat.reduceBEq, Nat.reduceEqDiff, dropTo, List.map_cons, List.map_nil, List.filter_cons, List.filter_nil]
    refine loop_rule (σ := Nat) (fun q => q ≤ cs.length ∧ q ≤ 100) (fun q => fr 111 [(1, rv), (2, W pc), (3, W xt), (4, .bool hl), (12, .ptr 0 []), (14, .ptr 1 []), (30, .lst 2 cs.length (fun j => cellV (cs.getD j (0, 0)))), (31, .int .i64 cs.length), (32, .int .i64 q)])
      (fun q => laidH (memF cs q) (fun _ => 0) 0 false 0 0) (fun _ => 4) (fun q => cs.length - q) 0 (by omega) ?_ ?_
    · refine Weak.fr [32, 128, 129, 130] [] hx (by simp only [fr_length]) (by decide) ?_ ?_
      · simp only [LT, SimL, ne_eq, Nat.reduceLT, SimA, Sim, SimH, frz, hget, hhas, List.getElem?_cons_zero, List.getElem?_cons_succ, List.getElem?_nil, BEq.rfl, if_true, reduceCtorEq, Option.some.injEq, Nat.reduceEqDiff, if_false, List.contains_cons, List.contains_nil, V.ok, V.get, V.fget, V.fhas, Nat.reduceLeDiff, implies_true, Nat.reduceBEq, Int.cast_ofNat_Int, hrvS, cellV]
      · simp only [LT, SimL, ne_eq, Nat.reduceLT, SimA, Sim, SimH, frz, hget, hhas, List.getElem?_cons_zero, List.getElem?_cons_succ, List.getElem?_nil, BEq.rfl, if_true, reduceCtorEq, Option.some.injEq, Nat.reduceEqDiff, if_false, List.contains_cons, List.contains_nil, V.ok, V.get, V.fget, V.fhas, Nat.reduceLeDiff, implies_true, Nat.reduceBEq, Int.cast_ofNat_Int, laidH, mach, refm, memF]
    · intro q ⟨hq, hq2⟩
      by_cases hlt : q < cs.length
      · have d0 : decide ((q : Int) < cs.length) = true := decide_eq_true (by omega)
        (refine ex_sound 5 _ _ _ _ ?_; simp (maxSteps := 2000000) only [d0, laidH, mach, refm, cellV, eqP_in, eqP_mn, eqP_nn, eqP_pn, eqV_in, eqV_mn, eqV_nn, eqV_pn, LU, ↓step_conv, ex, Ro, RoD, OpD, epk, epochs, Mv.hx, idsOK, bs, wmask, LK.isW, LK.isA, LK.isP, step, num, X.ev, List.cons_append, List.nil_append, ne_eq, Nat.reduceLT, Int.reduceLE, Int.reduceLT, Int.cast_ofNat_Int, Nat.reducePow, Nat.reduceAnd, Nat.reduceOr, Nat.reduceShiftRight, BEq.rfl, Int.reduceToNat, vpick, vopt, optInt, isInt, vbuild, vbuildOK, vcaps, vcapsOK, elems, elemsOK, List.length_cons, List.length_nil, hget, hset, hdel, hhas, padd, V.ok, V.get, V.set, V.fget, V.fhas, V.fset, noR, Z.v, Z.sz, if_true, if_false, ite_true, ite_false, cond_true, cond_false, reduceCtorEq, forall_const, Nat.reduceAdd, Nat.reduceMul, Nat.reduceSub, Nat.reduceBEq, Nat.reduceEqDiff, dropTo, List.map_cons, List.map_nil, List.filter_cons, List.filter_nil])
        by_cases h100 : q < 100
        · have d1 : decide ((100 : Int) ≤ q) = false := decide_eq_false (by omega)
          (refine ex_sound 40 _ _ _ _ ?_; simp (maxSteps := 2000000) only [d0, d1, laidH, mach, refm, cellV, eqP_in, eqP_mn, eqP_nn, eqP_pn, eqV_in, eqV_mn, eqV_nn, eqV_pn, LU, ↓step_conv, ex, Ro, RoD, OpD, epk, epochs, Mv.hx, idsOK, bs, wmask, LK.isW, LK.isA, LK.isP, step, num, X.ev, List.cons_append, List.nil_append, ne_eq, Nat.reduceLT, Int.reduceLE, Int.reduceLT, Int.cast_ofNat_Int, Nat.reducePow, Nat.reduceAnd, Nat.reduceOr, Nat.reduceShiftRight, BEq.rfl, Int.reduceToNat, vpick, vopt, optInt, isInt, vbuild, vbuildOK, vcaps, vcapsOK, elems, elemsOK, List.length_cons, List.length_nil, hget, hset, hdel, hhas, padd, V.ok, V.get, V.set, V.fget, V.fhas, V.fset, noR, Z.v, Z.sz, if_true, if_false, ite_true, ite_false, cond_true, cond_false, reduceCtorEq, forall_const, Nat.reduceAdd, Nat.reduceMul, Nat.reduceSub, Nat.reduceBEq, Nat.reduceEqDiff, dropTo, List.map_cons, List.map_nil, List.filter_cons, List.filter_nil])
          have e1 : ((cs.getD q (0, 0)).fst.toNat : Int).tmod 8192 = (((cs.getD q (0, 0)).fst.toNat % 8192 : Nat) : Int) := by rw [Int.tmod_eq_emod_of_nonneg (by omega)]; omega
          have w1 : IntKind.i64.wrap ((q : Int) + 1) = ((q + 1 : Nat) : Int) := by rw [wrap_i64 (by omega)]; omega
          simp only [e1, w1, Int.toNat_natCast]
          refine ⟨by omega, by omega, by omega, by omega, by omega, by omega, by omega, q + 1, by omega, by omega, ?_⟩
          refine Weak.fr [0, 1, 2, 3] [] hx (by simp only [fr_length]) (by decide) ?_ ?_
          · simp only [LT, SimL, ne_eq, Nat.reduceLT, SimA, Sim, SimH, frz, hget, hhas, List.getElem?_cons_zero, List.getElem?_cons_succ, List.getElem?_nil, BEq.rfl, if_true, reduceCtorEq, Option.some.injEq, Nat.reduceEqDiff, if_false, List.contains_cons, List.contains_nil, V.ok, V.get, V.fget, V.fhas, Nat.reduceLeDiff, implies_true, Nat.reduceBEq, Int.cast_ofNat_Int, hrvS]
          · simp only [LT, SimL, ne_eq, Nat.reduceLT, SimA, Sim, SimH, frz, hget, hhas, List.getElem?_cons_zero, List.getElem?_cons_succ, List.getElem?_nil, BEq.rfl, if_true, reduceCtorEq, Option.some.injEq, Nat.reduceEqDiff, if_false, List.contains_cons, List.contains_nil, V.ok, V.get, V.fget, V.fhas, Nat.reduceLeDiff, implies_true, Nat.reduceBEq, Int.cast_ofNat_Int, memF]
        · have d1 : decide ((100 : Int) ≤ q) = true := decide_eq_true (by omega)
          (refine ex_sound 9 _ _ _ _ ?_; simp (maxSteps := 2000000) only [d0, d1, laidH, mach, refm, cellV, eqP_in, eqP_mn, eqP_nn, eqP_pn, eqV_in, eqV_mn, eqV_nn, eqV_pn, LU, ↓step_conv, ex, Ro, RoD, OpD, epk, epochs, Mv.hx, idsOK, bs, wmask, LK.isW, LK.isA, LK.isP, step, num, X.ev, List.cons_append, List.nil_append, ne_eq, Nat.reduceLT, Int.reduceLE, Int.reduceLT, Int.cast_ofNat_Int, Nat.reducePow, Nat.reduceAnd, Nat.reduceOr, Nat.reduceShiftRight, BEq.rfl, Int.reduceToNat, vpick, vopt, optInt, isInt, vbuild, vbuildOK, vcaps, vcapsOK, elems, elemsOK, List.length_cons, List.length_nil, hget, hset, hdel, hhas, padd, V.ok, V.get, V.set, V.fget, V.fhas, V.fset, noR, Z.v, Z.sz, if_true, if_false, ite_true, ite_false, cond_true, cond_false, reduceCtorEq, forall_const, Nat.reduceAdd, Nat.reduceMul, Nat.reduceSub, Nat.reduceBEq, Nat.reduceEqDiff, dropTo, List.map_cons, List.map_nil, List.filter_cons, List.filter_nil])
          have hqe : q = min cs.length 100 := by omega
          refine ⟨by omega, SemK.weak _ _ _ ?_ (tail hx)⟩
          rw [← hqe]
          refine Weak.fr [0, 1, 2, 3] [] hx (by simp only [fr_length]) (by decide) ?_ ?_
          · simp only [LT, SimL, ne_eq, Nat.reduceLT, SimA, Sim, SimH, frz, hget, hhas, List.getElem?_cons_zero, List.getElem?_cons_succ, List.getElem?_nil, BEq.rfl, if_true, reduceCtorEq, Option.some.injEq, Nat.reduceEqDiff, if_false, List.contains_cons, List.contains_nil, V.ok, V.get, V.fget, V.fhas, Nat.reduceLeDiff, implies_true, Nat.reduceBEq, Int.cast_ofNat_Int, hrvS]
          · simp only [LT, SimL, ne_eq, Nat.reduceLT, SimA, Sim, SimH, frz, hget, hhas, List.getElem?_cons_zero, List.getElem?_cons_succ, List.getElem?_nil, BEq.rfl, if_true, reduceCtorEq, Option.some.injEq, Nat.reduceEqDiff, if_false, List.contains_cons, List.contains_nil, V.ok, V.get, V.fget, V.fhas, Nat.reduceLeDiff, implies_true, Nat.reduceBEq, Int.cast_ofNat_Int, laidH, mach, refm]
      · have d0 : decide ((q : Int) < cs.length) = false := decide_eq_false (by omega)
        (refine ex_sound 5 _ _ _ _ ?_; simp (maxSteps := 2000000) only [d0, laidH, mach, refm, cellV, eqP_in, eqP_mn, eqP_nn, eqP_pn, eqV_in, eqV_mn, eqV_nn, eqV_pn, LU, ↓step_conv, ex, Ro, RoD, OpD, epk, epochs, Mv.hx, idsOK, bs, wmask, LK.isW, LK.isA, LK.isP, step, num, X.ev, List.cons_append, List.nil_append, ne_eq, Nat.reduceLT, Int.reduceLE, Int.reduceLT, Int.cast_ofNat_Int, Nat.reducePow, Nat.reduceAnd, Nat.reduceOr, Nat.reduceShiftRight, BEq.rfl, Int.reduceToNat, vpick, vopt, optInt, isInt, vbuild, vbuildOK, vcaps, vcapsOK, elems, elemsOK, List.length_cons, List.length_nil, hget, hset, hdel, hhas, padd, V.ok, V.get, V.set, V.fget, V.fhas, V.fset, noR, Z.v, Z.sz, if_true, if_false, ite_true, ite_false, cond_true, cond_false, reduceCtorEq, forall_const, Nat.reduceAdd, Nat.reduceMul, Nat.reduceSub, Nat.reduceBEq, Nat.reduceEqDiff, dropTo, List.map_cons, List.map_nil, List.filter_cons, List.filter_nil])
        have hqe : q = min cs.length 100 := by omega
        refine SemK.weak _ _ _ ?_ (tail hx)
        rw [← hqe]
        refine Weak.fr [0, 1, 2, 3] [] hx (by simp only [fr_length]) (by decide) ?_ ?_
        · simp only [LT, SimL, ne_eq, Nat.reduceLT, SimA, Sim, SimH, frz, hget, hhas, List.getElem?_cons_zero, List.getElem?_cons_succ, List.getElem?_nil, BEq.rfl, if_true, reduceCtorEq, Option.some.injEq, Nat.reduceEqDiff, if_false, List.contains_cons, List.contains_nil, V.ok, V.get, V.fget, V.fhas, Nat.reduceLeDiff, implies_true, Nat.reduceBEq, Int.cast_ofNat_Int, hrvS]
        · simp only [LT, SimL, ne_eq, Nat.reduceLT, SimA, Sim, SimH, frz, hget, hhas, List.getElem?_cons_zero, List.getElem?_cons_succ, List.getElem?_nil, BEq.rfl, if_true, reduceCtorEq, Option.some.injEq, Nat.reduceEqDiff, if_false, List.contains_cons, List.contains_nil, V.ok, V.get, V.fget, V.fhas, Nat.reduceLeDiff, implies_true, Nat.reduceBEq, Int.cast_ofNat_Int, laidH, mach, refm]
  · subst h
    simp (maxSteps := 2000000) only [eqP_in, eqP_mn, eqP_nn, eqP_pn, eqV_in, eqV_mn, eqV_nn, eqV_pn, LU, ↓step_conv, ex, Ro, RoD, OpD, epk, epochs, Mv.hx, idsOK, bs, wmask, LK.isW, LK.isA, LK.isP, step, num, X.ev, List.cons_append, List.nil_append, ne_eq, Nat.reduceLT, Int.reduceLE, Int.reduceLT, Int.cast_ofNat_Int, Nat.reducePow, Nat.reduceAnd, Nat.reduceOr, Nat.reduceShiftRight, BEq.rfl, Int.reduceToNat, vpick, vopt, optInt, isInt, vbuild, vbuildOK, vcaps, vcapsOK, elems, elemsOK, List.length_cons, List.length_nil, hget, hset, hdel, hhas, padd, V.ok, V.get, V.set, V.fget, V.fhas, V.fset, noR, Z.v, Z.sz, if_true, if_false, ite_true, ite_false, cond_true, cond_false, reduceCtorEq, forall_const, Nat.reduceAdd, Nat.reduceMul, Nat.reduceSub, Nat.reduceBEq, Nat.reduceEqDiff, dropTo, List.map_cons, List.map_nil, List.filter_cons, List.filter_nil]
    refine loop_once ?_
    have d0 : decide ((0 : Int) < 0) = false := rfl
    (refine ex_sound 5 _ _ _ _ ?_; simp (maxSteps := 2000000) only [d0, eqP_in, eqP_mn, eqP_nn, eqP_pn, eqV_in, eqV_mn, eqV_nn, eqV_pn, LU, ↓step_conv, ex, Ro, RoD, OpD, epk, epochs, Mv.hx, idsOK, bs, wmask, LK.isW, LK.isA, LK.isP, step, num, X.ev, List.cons_append, List.nil_append, ne_eq, Nat.reduceLT, Int.reduceLE, Int.reduceLT, Int.cast_ofNat_Int, Nat.reducePow, Nat.reduceAnd, Nat.reduceOr, Nat.reduceShiftRight, BEq.rfl, Int.reduceToNat, vpick, vopt, optInt, isInt, vbuild, vbuildOK, vcaps, vcapsOK, elems, elemsOK, List.length_cons, List.length_nil, hget, hset, hdel, hhas, padd, V.ok, V.get, V.set, V.fget, V.fhas, V.fset, noR, Z.v, Z.sz, if_true, if_false, ite_true, ite_false, cond_true, cond_false, reduceCtorEq, forall_const, Nat.reduceAdd, Nat.reduceMul, Nat.reduceSub, Nat.reduceBEq, Nat.reduceEqDiff, dropTo, List.map_cons, List.map_nil, List.filter_cons, List.filter_nil])
    refine SemK.weak _ _ _ ?_ (tail hx)
    have hz : min cs.length 100 = 0 := by omega
    rw [hz]
    refine Weak.fr [32, 128, 129, 130] [] hx (by simp only [fr_length]) (by decide) ?_ ?_
    · simp only [LT, SimL, ne_eq, Nat.reduceLT, SimA, Sim, SimH, frz, hget, hhas, List.getElem?_cons_zero, List.getElem?_cons_succ, List.getElem?_nil, BEq.rfl, if_true, reduceCtorEq, Option.some.injEq, Nat.reduceEqDiff, if_false, List.contains_cons, List.contains_nil, V.ok, V.get, V.fget, V.fhas, Nat.reduceLeDiff, implies_true, Nat.reduceBEq, Int.cast_ofNat_Int, hrvS]
    · simp only [LT, SimL, ne_eq, Nat.reduceLT, SimA, Sim, SimH, frz, hget, hhas, List.getElem?_cons_zero, List.getElem?_cons_succ, List.getElem?_nil, BEq.rfl, if_true, reduceCtorEq, Option.some.injEq, Nat.reduceEqDiff, if_false, List.contains_cons, List.contains_nil, V.ok, V.get, V.fget, V.fhas, Nat.reduceLeDiff, implies_true, Nat.reduceBEq, Int.cast_ofNat_Int, laidH, mach, refm, memF]
end Mv
