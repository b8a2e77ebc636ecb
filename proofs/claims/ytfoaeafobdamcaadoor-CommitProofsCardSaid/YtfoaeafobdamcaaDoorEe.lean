/- The document's Pair, Zeros, Wrong, Under, Root. -/
import Derived.Test.YtfoaeafobdamcaaDoorEc
set_option linter.unusedSimpArgs false
set_option linter.unusedVariables false
namespace Mv
open Go
set_option maxRecDepth 20000
set_option maxHeartbeats 4000000
set_option linter.unusedSimpArgs false

theorem nums1 (n : Nat) : nums [] n 1 = [n] := rfl
theorem nums0 (n : Nat) : nums [] n 0 = [] := rfl
theorem nums4 (n : Nat) : nums [] n 4 = [n, n + 1, n + 2, n + 3] := rfl

def two (a b : Dg) (j : Nat) : BitVec 8 := if j < 32 then a.at j else b.at (j - 32)
theorem pd_two (a b : Dg) : pd (two a b) = pad a b := by
  funext j
  unfold pd two pad
  repeat' split
  all_goals first | rfl | omega

theorem runs_refPair {M : Seat} (ok : OkB M) (a b : Dg) :
    Runs M 206 [dg a, dg b] [] 0 (fun r H' k' => r = dg (pair a b) ∧ H' = [] ∧ k' = 0) := by
  refine runs_fr ok.k206 rfl fun x hx => ?_
  refine ex_sound 30 _ _ _ _ ?_
  simp only [f206, c206, dg, LQ, ↓step_conv, OpD, epk, epochs, Mv.hx, idsOK, bs, wmask, LK.isW, LK.isA, LK.isP, step, num, X.ev, List.cons_append, List.nil_append, ne_eq, Nat.reduceLT, Int.reduceLE, Int.reduceLT, Int.cast_ofNat_Int, Nat.reducePow, Nat.reduceAnd, Nat.reduceOr, Nat.reduceShiftRight, BEq.rfl, Int.reduceToNat, vpick, vopt, optInt, isInt, vbuild, vbuildOK, vcaps, vcapsOK, elems, elemsOK, List.length_cons, List.length_nil, hget, hset, hdel, hhas, padd, V.ok, V.get, V.set, V.fget, V.fhas, V.fset, noR, Z.v, Z.sz, if_true, if_false, ite_true, ite_false, cond_true, cond_false, reduceCtorEq, forall_const, Nat.reduceAdd, Nat.reduceMul, Nat.reduceSub, Nat.reduceBEq, Nat.reduceEqDiff, dropTo, List.map_cons, List.map_nil, List.filter_cons, List.filter_nil, Nat.reduceLeDiff, Nat.testBit, Nat.reduceBneDiff, bne_self_eq_false, Nat.reduceBNe, ↓reduceIte, eqP_nn, eqV_nn, eqP_in, eqV_in, eqP_pn, eqV_pn, eqP_mn, eqV_mn]
  refine call_pureZ [144] (runs_refSum ok (two a b)) ?_ rfl ?_
  · simp only [LT, SimL, ne_eq, Nat.reduceLT, SimA, Sim, SimH, frz, hget, hhas, List.getElem?_cons_zero, List.getElem?_cons_succ, List.getElem?_nil, BEq.rfl, if_true, reduceCtorEq, Option.some.injEq, Nat.reduceEqDiff, if_false, List.contains_cons, List.contains_nil, V.ok, V.get, V.fget, V.fhas, Nat.reduceLeDiff, implies_true, Nat.reduceBEq, Int.cast_ofNat_Int]
    intro j hj
    unfold two
    by_cases h1 : j < 32
    · simp only [if_pos h1, Nat.not_lt_zero, if_false, Nat.sub_zero]
      exact (Sim_B _ _ _ _ _).mpr rfl
    · simp only [if_neg h1]
      exact (Sim_B _ _ _ _ _).mpr rfl
  simp only [hrest, dg, LQ, ↓step_conv, OpD, epk, epochs, Mv.hx, idsOK, bs, wmask, LK.isW, LK.isA, LK.isP, step, num, X.ev, List.cons_append, List.nil_append, ne_eq, Nat.reduceLT, Int.reduceLE, Int.reduceLT, Int.cast_ofNat_Int, Nat.reducePow, Nat.reduceAnd, Nat.reduceOr, Nat.reduceShiftRight, BEq.rfl, Int.reduceToNat, vpick, vopt, optInt, isInt, vbuild, vbuildOK, vcaps, vcapsOK, elems, elemsOK, List.length_cons, List.length_nil, hget, hset, hdel, hhas, padd, V.ok, V.get, V.set, V.fget, V.fhas, V.fset, noR, Z.v, Z.sz, if_true, if_false, ite_true, ite_false, cond_true, cond_false, reduceCtorEq, forall_const, Nat.reduceAdd, Nat.reduceMul, Nat.reduceSub, Nat.reduceBEq, Nat.reduceEqDiff, dropTo, List.map_cons, List.map_nil, List.filter_cons, List.filter_nil, Nat.reduceLeDiff, Nat.testBit, Nat.reduceBneDiff, bne_self_eq_false, Nat.reduceBNe, ↓reduceIte, eqP_nn, eqV_nn, eqP_in, eqV_in, eqP_pn, eqV_pn, eqP_mn, eqV_mn]
  refine RetS.mk hx [] [] (dg (pair a b)) [] 0 (by decide) ?_ ?_ trivial ⟨rfl, rfl, rfl⟩
  · simp only [res, resPs, resP, tupP, resV, LU, ↓step_conv, ex, Ro, RoD, OpD, epk, epochs, Mv.hx, idsOK, bs, wmask, LK.isW, LK.isA, LK.isP, step, num, X.ev, List.cons_append, List.nil_append, ne_eq, Nat.reduceLT, Int.reduceLE, Int.reduceLT, Int.cast_ofNat_Int, Nat.reducePow, Nat.reduceAnd, Nat.reduceOr, Nat.reduceShiftRight, BEq.rfl, Int.reduceToNat, vpick, vopt, optInt, isInt, vbuild, vbuildOK, vcaps, vcapsOK, elems, elemsOK, List.length_cons, List.length_nil, hget, hset, hdel, hhas, padd, V.ok, V.get, V.set, V.fget, V.fhas, V.fset, noR, Z.v, Z.sz, if_true, if_false, ite_true, ite_false, cond_true, cond_false, reduceCtorEq, forall_const, Nat.reduceAdd, Nat.reduceMul, Nat.reduceSub, Nat.reduceBEq, Nat.reduceEqDiff, dropTo, List.map_cons, List.map_nil, List.filter_cons, List.filter_nil]
  · simp only [res, resV, tupV, tup2, tup3, LU, ↓step_conv, ex, Ro, RoD, OpD, epk, epochs, Mv.hx, idsOK, bs, wmask, LK.isW, LK.isA, LK.isP, step, num, X.ev, List.cons_append, List.nil_append, ne_eq, Nat.reduceLT, Int.reduceLE, Int.reduceLT, Int.cast_ofNat_Int, Nat.reducePow, Nat.reduceAnd, Nat.reduceOr, Nat.reduceShiftRight, BEq.rfl, Int.reduceToNat, vpick, vopt, optInt, isInt, vbuild, vbuildOK, vcaps, vcapsOK, elems, elemsOK, List.length_cons, List.length_nil, hget, hset, hdel, hhas, padd, V.ok, V.get, V.set, V.fget, V.fhas, V.fset, noR, Z.v, Z.sz, if_true, if_false, ite_true, ite_false, cond_true, cond_false, reduceCtorEq, forall_const, Nat.reduceAdd, Nat.reduceMul, Nat.reduceSub, Nat.reduceBEq, Nat.reduceEqDiff, dropTo, List.map_cons, List.map_nil, List.filter_cons, List.filter_nil, LT, SimL, ne_eq, Nat.reduceLT, SimA, Sim, SimH, frz, hget, hhas, List.getElem?_cons_zero, List.getElem?_cons_succ, List.getElem?_nil, BEq.rfl, if_true, reduceCtorEq, Option.some.injEq, Nat.reduceEqDiff, if_false, List.contains_cons, List.contains_nil, V.ok, V.get, V.fget, V.fhas, Nat.reduceLeDiff, implies_true, Nat.reduceBEq, Int.cast_ofNat_Int, dg]
    intro j _
    rw [pd_two]; rfl

theorem runs_Zeros {M : Seat} (ok : OkB M) :
    Runs M 205 [] [] 0 (fun r H' k' => r = .sl 0 [] 0 17 32 ∧ H' = [(0, .ar 32 17 (fun j => dg (nought j)))] ∧ k' = 1) := by
  refine runs_fr ok.k205 rfl fun x hx => ?_
  refine ex_sound 30 _ _ _ _ ?_
  simp only [f205, c205, LQ, ↓step_conv, OpD, epk, epochs, Mv.hx, idsOK, bs, wmask, LK.isW, LK.isA, LK.isP, step, num, X.ev, List.cons_append, List.nil_append, ne_eq, Nat.reduceLT, Int.reduceLE, Int.reduceLT, Int.cast_ofNat_Int, Nat.reducePow, Nat.reduceAnd, Nat.reduceOr, Nat.reduceShiftRight, BEq.rfl, Int.reduceToNat, vpick, vopt, optInt, isInt, vbuild, vbuildOK, vcaps, vcapsOK, elems, elemsOK, List.length_cons, List.length_nil, hget, hset, hdel, hhas, padd, V.ok, V.get, V.set, V.fget, V.fhas, V.fset, noR, Z.v, Z.sz, if_true, if_false, ite_true, ite_false, cond_true, cond_false, reduceCtorEq, forall_const, Nat.reduceAdd, Nat.reduceMul, Nat.reduceSub, Nat.reduceBEq, Nat.reduceEqDiff, dropTo, List.map_cons, List.map_nil, List.filter_cons, List.filter_nil, Nat.reduceLeDiff, Nat.testBit, Nat.reduceBneDiff, bne_self_eq_false, Nat.reduceBNe, ↓reduceIte, eqP_nn, eqV_nn, eqP_in, eqV_in, eqP_pn, eqV_pn, eqP_mn, eqV_mn]
  refine ⟨⟨by omega, by omega⟩, ?_⟩
  refine loop_rule (σ := Nat) (fun i => i ≤ 16) (fun i => fr 21 [(1, .sl 0 [] 0 (i + 1) 32), (2, .int .i64 i)])
      (fun i => [(0, .ar 32 (i + 1) (fun j => dg (nought j)))]) (fun _ => 1) (fun i => 16 - i) 0 (by omega) ?_ ?_
  · refine Weak.fr [16] [] hx (by simp only [fr_length]) (by decide) ?_ ?_
    · simp only [LT, SimL, ne_eq, Nat.reduceLT, SimA, Sim, SimH, frz, hget, hhas, List.getElem?_cons_zero, List.getElem?_cons_succ, List.getElem?_nil, BEq.rfl, if_true, reduceCtorEq, Option.some.injEq, Nat.reduceEqDiff, if_false, List.contains_cons, List.contains_nil, V.ok, V.get, V.fget, V.fhas, Nat.reduceLeDiff, implies_true, Nat.reduceBEq, Int.cast_ofNat_Int]
    · simp only [LT, SimL, ne_eq, Nat.reduceLT, SimA, Sim, SimH, frz, hget, hhas, List.getElem?_cons_zero, List.getElem?_cons_succ, List.getElem?_nil, BEq.rfl, if_true, reduceCtorEq, Option.some.injEq, Nat.reduceEqDiff, if_false, List.contains_cons, List.contains_nil, V.ok, V.get, V.fget, V.fhas, Nat.reduceLeDiff, implies_true, Nat.reduceBEq, Int.cast_ofNat_Int, dg0]
      intro j hj
      have : j = 0 := by omega
      subst this; rfl
  · intro i hi
    by_cases h16 : i = 16
    · subst h16
      have d0 : decide (((16 : Nat) : Int) < 16) = false := rfl
      (refine ex_sound 30 _ _ _ _ ?_; simp (maxSteps := 2000000) only [d0, LQ, ↓step_conv, OpD, epk, epochs, Mv.hx, idsOK, bs, wmask, LK.isW, LK.isA, LK.isP, step, num, X.ev, List.cons_append, List.nil_append, ne_eq, Nat.reduceLT, Int.reduceLE, Int.reduceLT, Int.cast_ofNat_Int, Nat.reducePow, Nat.reduceAnd, Nat.reduceOr, Nat.reduceShiftRight, BEq.rfl, Int.reduceToNat, vpick, vopt, optInt, isInt, vbuild, vbuildOK, vcaps, vcapsOK, elems, elemsOK, List.length_cons, List.length_nil, hget, hset, hdel, hhas, padd, V.ok, V.get, V.set, V.fget, V.fhas, V.fset, noR, Z.v, Z.sz, if_true, if_false, ite_true, ite_false, cond_true, cond_false, reduceCtorEq, forall_const, Nat.reduceAdd, Nat.reduceMul, Nat.reduceSub, Nat.reduceBEq, Nat.reduceEqDiff, dropTo, List.map_cons, List.map_nil, List.filter_cons, List.filter_nil, Nat.reduceLeDiff, Nat.testBit, Nat.reduceBneDiff, bne_self_eq_false, Nat.reduceBNe, ↓reduceIte, eqP_nn, eqV_nn, eqP_in, eqV_in, eqP_pn, eqV_pn, eqP_mn, eqV_mn])
      refine RetS.mk hx [0] [] (.sl 0 [] 0 17 32) [(0, .ar 32 17 (fun j => dg (nought j)))] 1 (by decide) ?_ ?_ ?_ ⟨rfl, rfl, rfl⟩
      · simp only [res, resPs, resP, tupP, resV, LU, ↓step_conv, ex, Ro, RoD, OpD, epk, epochs, Mv.hx, idsOK, bs, wmask, LK.isW, LK.isA, LK.isP, step, num, X.ev, List.cons_append, List.nil_append, ne_eq, Nat.reduceLT, Int.reduceLE, Int.reduceLT, Int.cast_ofNat_Int, Nat.reducePow, Nat.reduceAnd, Nat.reduceOr, Nat.reduceShiftRight, BEq.rfl, Int.reduceToNat, vpick, vopt, optInt, isInt, vbuild, vbuildOK, vcaps, vcapsOK, elems, elemsOK, List.length_cons, List.length_nil, hget, hset, hdel, hhas, padd, V.ok, V.get, V.set, V.fget, V.fhas, V.fset, noR, Z.v, Z.sz, if_true, if_false, ite_true, ite_false, cond_true, cond_false, reduceCtorEq, forall_const, Nat.reduceAdd, Nat.reduceMul, Nat.reduceSub, Nat.reduceBEq, Nat.reduceEqDiff, dropTo, List.map_cons, List.map_nil, List.filter_cons, List.filter_nil]
      · simp only [res, resV, tupV, tup2, tup3, LU, ↓step_conv, ex, Ro, RoD, OpD, epk, epochs, Mv.hx, idsOK, bs, wmask, LK.isW, LK.isA, LK.isP, step, num, X.ev, List.cons_append, List.nil_append, ne_eq, Nat.reduceLT, Int.reduceLE, Int.reduceLT, Int.cast_ofNat_Int, Nat.reducePow, Nat.reduceAnd, Nat.reduceOr, Nat.reduceShiftRight, BEq.rfl, Int.reduceToNat, vpick, vopt, optInt, isInt, vbuild, vbuildOK, vcaps, vcapsOK, elems, elemsOK, List.length_cons, List.length_nil, hget, hset, hdel, hhas, padd, V.ok, V.get, V.set, V.fget, V.fhas, V.fset, noR, Z.v, Z.sz, if_true, if_false, ite_true, ite_false, cond_true, cond_false, reduceCtorEq, forall_const, Nat.reduceAdd, Nat.reduceMul, Nat.reduceSub, Nat.reduceBEq, Nat.reduceEqDiff, dropTo, List.map_cons, List.map_nil, List.filter_cons, List.filter_nil, LT, SimL, ne_eq, Nat.reduceLT, SimA, Sim, SimH, frz, hget, hhas, List.getElem?_cons_zero, List.getElem?_cons_succ, List.getElem?_nil, BEq.rfl, if_true, reduceCtorEq, Option.some.injEq, Nat.reduceEqDiff, if_false, List.contains_cons, List.contains_nil, V.ok, V.get, V.fget, V.fhas, Nat.reduceLeDiff, implies_true, Nat.reduceBEq, Int.cast_ofNat_Int, dg]
      · simp only [LT, SimL, ne_eq, Nat.reduceLT, SimA, Sim, SimH, frz, hget, hhas, List.getElem?_cons_zero, List.getElem?_cons_succ, List.getElem?_nil, BEq.rfl, if_true, reduceCtorEq, Option.some.injEq, Nat.reduceEqDiff, if_false, List.contains_cons, List.contains_nil, V.ok, V.get, V.fget, V.fhas, Nat.reduceLeDiff, implies_true, Nat.reduceBEq, Int.cast_ofNat_Int]
    · have d0 : decide ((i : Int) < 16) = true := decide_eq_true (by omega)
      have w1 : IntKind.i64.wrap ((i : Int) + 1) = ((i + 1 : Nat) : Int) := by rw [wrap_i64 (by omega)]; omega
      (refine ex_sound 30 _ _ _ _ ?_; simp (maxSteps := 2000000) only [d0, w1, LQ, ↓step_conv, OpD, epk, epochs, Mv.hx, idsOK, bs, wmask, LK.isW, LK.isA, LK.isP, step, num, X.ev, List.cons_append, List.nil_append, ne_eq, Nat.reduceLT, Int.reduceLE, Int.reduceLT, Int.cast_ofNat_Int, Nat.reducePow, Nat.reduceAnd, Nat.reduceOr, Nat.reduceShiftRight, BEq.rfl, Int.reduceToNat, vpick, vopt, optInt, isInt, vbuild, vbuildOK, vcaps, vcapsOK, elems, elemsOK, List.length_cons, List.length_nil, hget, hset, hdel, hhas, padd, V.ok, V.get, V.set, V.fget, V.fhas, V.fset, noR, Z.v, Z.sz, if_true, if_false, ite_true, ite_false, cond_true, cond_false, reduceCtorEq, forall_const, Nat.reduceAdd, Nat.reduceMul, Nat.reduceSub, Nat.reduceBEq, Nat.reduceEqDiff, dropTo, List.map_cons, List.map_nil, List.filter_cons, List.filter_nil, Nat.reduceLeDiff, Nat.testBit, Nat.reduceBneDiff, bne_self_eq_false, Nat.reduceBNe, ↓reduceIte, eqP_nn, eqV_nn, eqP_in, eqV_in, eqP_pn, eqV_pn, eqP_mn, eqV_mn])
      refine ⟨⟨by omega, by omega⟩, by omega, by omega, ⟨by omega, by omega⟩, by omega, by omega, _, _, call_pure (runs_refPair ok _ _) ⟨(Sim_dg _ _ _ _ _).mpr rfl, (Sim_dg _ _ _ _ _).mpr rfl, trivial⟩ rfl ⟨rfl, rfl⟩, ?_⟩
      simp only [LQ, ↓step_conv, OpD, epk, epochs, Mv.hx, idsOK, bs, wmask, LK.isW, LK.isA, LK.isP, step, num, X.ev, List.cons_append, List.nil_append, ne_eq, Nat.reduceLT, Int.reduceLE, Int.reduceLT, Int.cast_ofNat_Int, Nat.reducePow, Nat.reduceAnd, Nat.reduceOr, Nat.reduceShiftRight, BEq.rfl, Int.reduceToNat, vpick, vopt, optInt, isInt, vbuild, vbuildOK, vcaps, vcapsOK, elems, elemsOK, List.length_cons, List.length_nil, hget, hset, hdel, hhas, padd, V.ok, V.get, V.set, V.fget, V.fhas, V.fset, noR, Z.v, Z.sz, if_true, if_false, ite_true, ite_false, cond_true, cond_false, reduceCtorEq, forall_const, Nat.reduceAdd, Nat.reduceMul, Nat.reduceSub, Nat.reduceBEq, Nat.reduceEqDiff, dropTo, List.map_cons, List.map_nil, List.filter_cons, List.filter_nil, Nat.reduceLeDiff, Nat.testBit, Nat.reduceBneDiff, bne_self_eq_false, Nat.reduceBNe, ↓reduceIte, eqP_nn, eqV_nn, eqP_in, eqV_in, eqP_pn, eqV_pn, eqP_mn, eqV_mn]
      refine ⟨⟨by omega, by omega⟩, i + 1, by omega, by omega, ?_⟩
      refine Weak.fr [417] [] hx (by simp only [fr_length]) (by decide) ?_ ?_
      · simp only [LT, SimL, ne_eq, Nat.reduceLT, SimA, Sim, SimH, frz, hget, hhas, List.getElem?_cons_zero, List.getElem?_cons_succ, List.getElem?_nil, BEq.rfl, if_true, reduceCtorEq, Option.some.injEq, Nat.reduceEqDiff, if_false, List.contains_cons, List.contains_nil, V.ok, V.get, V.fget, V.fhas, Nat.reduceLeDiff, implies_true, Nat.reduceBEq, Int.cast_ofNat_Int]
      · simp only [LT, SimL, ne_eq, Nat.reduceLT, SimA, Sim, SimH, frz, hget, hhas, List.getElem?_cons_zero, List.getElem?_cons_succ, List.getElem?_nil, BEq.rfl, if_true, reduceCtorEq, Option.some.injEq, Nat.reduceEqDiff, if_false, List.contains_cons, List.contains_nil, V.ok, V.get, V.fget, V.fhas, Nat.reduceLeDiff, implies_true, Nat.reduceBEq, Int.cast_ofNat_Int]
        intro j hj
        by_cases h1 : j < i + 1
        · rw [if_pos h1]; exact (Sim_dg _ _ _ _ _).mpr rfl
        · have : j = i + 1 := by omega
          subst this
          rw [if_neg h1, if_pos (by omega)]
          exact (Sim_dg _ _ _ _ _).mpr rfl

theorem runs_Wrong {M : Seat} (ok : OkB M) (d n : Nat) (hd : d ≤ 16) (hn : n ≤ 2 ^ d) :
    Runs M 203 [.int .i64 d, .int .i64 n] [] 0 (fun r H' k' => r = .int .i64 0 ∧ H' = [] ∧ k' = 0) := by
  refine runs_fr ok.k203 rfl fun x hx => ?_
  have d1 : decide ((d : Int) < 0) = false := decide_eq_false (by omega)
  have d2 : decide ((16 : Int) < d) = false := decide_eq_false (by omega)
  have w1 : IntKind.u64.wrap (d : Int) = d := wrap_u64 (by omega)
  have d3 : decide (((2 ^ d : Nat) : Int) < n) = false := decide_eq_false (by omega)
  refine ex_sound 30 _ _ _ _ ?_
  simp only [f203, c203, d1, d2, d3, w1, shl_1 hd, LQ, ↓step_conv, OpD, epk, epochs, Mv.hx, idsOK, bs, wmask, LK.isW, LK.isA, LK.isP, step, num, X.ev, List.cons_append, List.nil_append, ne_eq, Nat.reduceLT, Int.reduceLE, Int.reduceLT, Int.cast_ofNat_Int, Nat.reducePow, Nat.reduceAnd, Nat.reduceOr, Nat.reduceShiftRight, BEq.rfl, Int.reduceToNat, vpick, vopt, optInt, isInt, vbuild, vbuildOK, vcaps, vcapsOK, elems, elemsOK, List.length_cons, List.length_nil, hget, hset, hdel, hhas, padd, V.ok, V.get, V.set, V.fget, V.fhas, V.fset, noR, Z.v, Z.sz, if_true, if_false, ite_true, ite_false, cond_true, cond_false, reduceCtorEq, forall_const, Nat.reduceAdd, Nat.reduceMul, Nat.reduceSub, Nat.reduceBEq, Nat.reduceEqDiff, dropTo, List.map_cons, List.map_nil, List.filter_cons, List.filter_nil, Nat.reduceLeDiff, Nat.testBit, Nat.reduceBneDiff, bne_self_eq_false, Nat.reduceBNe, ↓reduceIte, eqP_nn, eqV_nn, eqP_in, eqV_in, eqP_pn, eqV_pn, eqP_mn, eqV_mn]
  refine ⟨by omega, ?_⟩
  refine RetS.mk hx [] [] (.int .i64 0) [] 0 (by decide) ?_ ?_ trivial ⟨rfl, rfl, rfl⟩
  · simp only [res, resPs, resP, tupP, resV, LU, ↓step_conv, ex, Ro, RoD, OpD, epk, epochs, Mv.hx, idsOK, bs, wmask, LK.isW, LK.isA, LK.isP, step, num, X.ev, List.cons_append, List.nil_append, ne_eq, Nat.reduceLT, Int.reduceLE, Int.reduceLT, Int.cast_ofNat_Int, Nat.reducePow, Nat.reduceAnd, Nat.reduceOr, Nat.reduceShiftRight, BEq.rfl, Int.reduceToNat, vpick, vopt, optInt, isInt, vbuild, vbuildOK, vcaps, vcapsOK, elems, elemsOK, List.length_cons, List.length_nil, hget, hset, hdel, hhas, padd, V.ok, V.get, V.set, V.fget, V.fhas, V.fset, noR, Z.v, Z.sz, if_true, if_false, ite_true, ite_false, cond_true, cond_false, reduceCtorEq, forall_const, Nat.reduceAdd, Nat.reduceMul, Nat.reduceSub, Nat.reduceBEq, Nat.reduceEqDiff, dropTo, List.map_cons, List.map_nil, List.filter_cons, List.filter_nil]
  · simp only [res, resV, tupV, tup2, tup3, LU, ↓step_conv, ex, Ro, RoD, OpD, epk, epochs, Mv.hx, idsOK, bs, wmask, LK.isW, LK.isA, LK.isP, step, num, X.ev, List.cons_append, List.nil_append, ne_eq, Nat.reduceLT, Int.reduceLE, Int.reduceLT, Int.cast_ofNat_Int, Nat.reducePow, Nat.reduceAnd, Nat.reduceOr, Nat.reduceShiftRight, BEq.rfl, Int.reduceToNat, vpick, vopt, optInt, isInt, vbuild, vbuildOK, vcaps, vcapsOK, elems, elemsOK, List.length_cons, List.length_nil, hget, hset, hdel, hhas, padd, V.ok, V.get, V.set, V.fget, V.fhas, V.fset, noR, Z.v, Z.sz, if_true, if_false, ite_true, ite_false, cond_true, cond_false, reduceCtorEq, forall_const, Nat.reduceAdd, Nat.reduceMul, Nat.reduceSub, Nat.reduceBEq, Nat.reduceEqDiff, dropTo, List.map_cons, List.map_nil, List.filter_cons, List.filter_nil, LT, SimL, ne_eq, Nat.reduceLT, SimA, Sim, SimH, frz, hget, hhas, List.getElem?_cons_zero, List.getElem?_cons_succ, List.getElem?_nil, BEq.rfl, if_true, reduceCtorEq, Option.some.injEq, Nat.reduceEqDiff, if_false, List.contains_cons, List.contains_nil, V.ok, V.get, V.fget, V.fhas, Nat.reduceLeDiff, implies_true, Nat.reduceBEq, Int.cast_ofNat_Int, dg]

def lvR (l : List Dg) (v : V) : Prop := v = row l ∨ (v = .nils ∧ l = [])

theorem node_out (l : List Dg) : ∀ h q, l.length ≤ q * 2 ^ h → node l h q = nought h
  | 0, q, hq => getD_out (by show l.length ≤ q; simpa using hq) _
  | h + 1, q, hq => by
    have e : q * 2 ^ (h + 1) = 2 * q * 2 ^ h := by rw [Nat.pow_succ]; ac_rfl
    have e2 : (2 * q + 1) * 2 ^ h = 2 * q * 2 ^ h + 2 ^ h := by rw [Nat.add_mul, Nat.one_mul]
    rw [node_step, node_out l h (2 * q) (by rw [← e]; exact hq), node_out l h (2 * q + 1) (by rw [e2]; exact Nat.le_trans (by rw [← e]; exact hq) (Nat.le_add_right _ _))]; rfl

abbrev ltZ : V := .lst 32 17 (fun j => dg (nought j))
theorem runs_Under {M : Seat} (ok : OkB M) (l : List Dg) (lv : V) (hlv : lvR l lv) (hl : l.length ≤ 65536) : ∀ (h q : Nat), h ≤ 16 → q * 2 ^ h + 2 ^ h ≤ 65536 →
    Runs M 204 [lv, .int .i64 (q * 2 ^ h : Nat), .int .i64 h, ltZ] [] 0 (fun r H' k' => r = dg (node l h q) ∧ H' = [] ∧ k' = 0) := by
  intro h
  induction h with
  | zero =>
    intro q _ hq
    refine runs_fr ok.k204 rfl fun x hx => ?_
    have e : q * 2 ^ 0 = q := by simp
    by_cases hout : l.length ≤ q
    · rw [node_out l 0 q (by simpa using hout), e]
      have d1 : decide (((l.length : Nat) : Int) ≤ (q : Int)) = true := decide_eq_true (by omega)
      have d3 : decide ((0 : Int) ≤ (q : Int)) = true := decide_eq_true (by omega)
      rcases hlv with h1 | ⟨h1, h2⟩
      all_goals
        subst h1
        refine ex_sound 30 _ _ _ _ ?_
        simp only [f204, c204, row, d1, d3, LQ, ↓step_conv, OpD, epk, epochs, Mv.hx, idsOK, bs, wmask, LK.isW, LK.isA, LK.isP, step, num, X.ev, List.cons_append, List.nil_append, ne_eq, Nat.reduceLT, Int.reduceLE, Int.reduceLT, Int.cast_ofNat_Int, Nat.reducePow, Nat.reduceAnd, Nat.reduceOr, Nat.reduceShiftRight, BEq.rfl, Int.reduceToNat, vpick, vopt, optInt, isInt, vbuild, vbuildOK, vcaps, vcapsOK, elems, elemsOK, List.length_cons, List.length_nil, hget, hset, hdel, hhas, padd, V.ok, V.get, V.set, V.fget, V.fhas, V.fset, noR, Z.v, Z.sz, if_true, if_false, ite_true, ite_false, cond_true, cond_false, reduceCtorEq, forall_const, Nat.reduceAdd, Nat.reduceMul, Nat.reduceSub, Nat.reduceBEq, Nat.reduceEqDiff, dropTo, List.map_cons, List.map_nil, List.filter_cons, List.filter_nil, Nat.reduceLeDiff, Nat.testBit, Nat.reduceBneDiff, bne_self_eq_false, Nat.reduceBNe, ↓reduceIte, eqP_nn, eqV_nn, eqP_in, eqV_in, eqP_pn, eqV_pn, eqP_mn, eqV_mn]
        refine RetS.mk hx [] [] (dg (nought 0)) [] 0 (by decide) ?_ ?_ trivial ⟨rfl, rfl, rfl⟩
        · simp only [res, resPs, resP, tupP, resV, LU, ↓step_conv, ex, Ro, RoD, OpD, epk, epochs, Mv.hx, idsOK, bs, wmask, LK.isW, LK.isA, LK.isP, step, num, X.ev, List.cons_append, List.nil_append, ne_eq, Nat.reduceLT, Int.reduceLE, Int.reduceLT, Int.cast_ofNat_Int, Nat.reducePow, Nat.reduceAnd, Nat.reduceOr, Nat.reduceShiftRight, BEq.rfl, Int.reduceToNat, vpick, vopt, optInt, isInt, vbuild, vbuildOK, vcaps, vcapsOK, elems, elemsOK, List.length_cons, List.length_nil, hget, hset, hdel, hhas, padd, V.ok, V.get, V.set, V.fget, V.fhas, V.fset, noR, Z.v, Z.sz, if_true, if_false, ite_true, ite_false, cond_true, cond_false, reduceCtorEq, forall_const, Nat.reduceAdd, Nat.reduceMul, Nat.reduceSub, Nat.reduceBEq, Nat.reduceEqDiff, dropTo, List.map_cons, List.map_nil, List.filter_cons, List.filter_nil]
        · simp only [res, resV, tupV, tup2, tup3, LU, ↓step_conv, ex, Ro, RoD, OpD, epk, epochs, Mv.hx, idsOK, bs, wmask, LK.isW, LK.isA, LK.isP, step, num, X.ev, List.cons_append, List.nil_append, ne_eq, Nat.reduceLT, Int.reduceLE, Int.reduceLT, Int.cast_ofNat_Int, Nat.reducePow, Nat.reduceAnd, Nat.reduceOr, Nat.reduceShiftRight, BEq.rfl, Int.reduceToNat, vpick, vopt, optInt, isInt, vbuild, vbuildOK, vcaps, vcapsOK, elems, elemsOK, List.length_cons, List.length_nil, hget, hset, hdel, hhas, padd, V.ok, V.get, V.set, V.fget, V.fhas, V.fset, noR, Z.v, Z.sz, if_true, if_false, ite_true, ite_false, cond_true, cond_false, reduceCtorEq, forall_const, Nat.reduceAdd, Nat.reduceMul, Nat.reduceSub, Nat.reduceBEq, Nat.reduceEqDiff, dropTo, List.map_cons, List.map_nil, List.filter_cons, List.filter_nil, LT, SimL, ne_eq, Nat.reduceLT, SimA, Sim, SimH, frz, hget, hhas, List.getElem?_cons_zero, List.getElem?_cons_succ, List.getElem?_nil, BEq.rfl, if_true, reduceCtorEq, Option.some.injEq, Nat.reduceEqDiff, if_false, List.contains_cons, List.contains_nil, V.ok, V.get, V.fget, V.fhas, Nat.reduceLeDiff, implies_true, Nat.reduceBEq, Int.cast_ofNat_Int, dg]
    · have d1 : decide (((l.length : Nat) : Int) ≤ (q : Int)) = false := decide_eq_false (by omega)
      have hrow : lv = row l := by
        rcases hlv with h1 | ⟨_, h2⟩
        · exact h1
        · subst h2; simp at hout
      subst hrow
      rw [e]
      refine ex_sound 30 _ _ _ _ ?_
      simp only [f204, c204, row, d1, LQ, ↓step_conv, OpD, epk, epochs, Mv.hx, idsOK, bs, wmask, LK.isW, LK.isA, LK.isP, step, num, X.ev, List.cons_append, List.nil_append, ne_eq, Nat.reduceLT, Int.reduceLE, Int.reduceLT, Int.cast_ofNat_Int, Nat.reducePow, Nat.reduceAnd, Nat.reduceOr, Nat.reduceShiftRight, BEq.rfl, Int.reduceToNat, vpick, vopt, optInt, isInt, vbuild, vbuildOK, vcaps, vcapsOK, elems, elemsOK, List.length_cons, List.length_nil, hget, hset, hdel, hhas, padd, V.ok, V.get, V.set, V.fget, V.fhas, V.fset, noR, Z.v, Z.sz, if_true, if_false, ite_true, ite_false, cond_true, cond_false, reduceCtorEq, forall_const, Nat.reduceAdd, Nat.reduceMul, Nat.reduceSub, Nat.reduceBEq, Nat.reduceEqDiff, dropTo, List.map_cons, List.map_nil, List.filter_cons, List.filter_nil, Nat.reduceLeDiff, Nat.testBit, Nat.reduceBneDiff, bne_self_eq_false, Nat.reduceBNe, ↓reduceIte, eqP_nn, eqV_nn, eqP_in, eqV_in, eqP_pn, eqV_pn, eqP_mn, eqV_mn]
      refine ⟨⟨by omega, by omega⟩, ?_⟩
      refine RetS.mk hx [] [] (dg (node l 0 q)) [] 0 (by decide) ?_ ?_ trivial ⟨rfl, rfl, rfl⟩
      · simp only [res, resPs, resP, tupP, resV, LU, ↓step_conv, ex, Ro, RoD, OpD, epk, epochs, Mv.hx, idsOK, bs, wmask, LK.isW, LK.isA, LK.isP, step, num, X.ev, List.cons_append, List.nil_append, ne_eq, Nat.reduceLT, Int.reduceLE, Int.reduceLT, Int.cast_ofNat_Int, Nat.reducePow, Nat.reduceAnd, Nat.reduceOr, Nat.reduceShiftRight, BEq.rfl, Int.reduceToNat, vpick, vopt, optInt, isInt, vbuild, vbuildOK, vcaps, vcapsOK, elems, elemsOK, List.length_cons, List.length_nil, hget, hset, hdel, hhas, padd, V.ok, V.get, V.set, V.fget, V.fhas, V.fset, noR, Z.v, Z.sz, if_true, if_false, ite_true, ite_false, cond_true, cond_false, reduceCtorEq, forall_const, Nat.reduceAdd, Nat.reduceMul, Nat.reduceSub, Nat.reduceBEq, Nat.reduceEqDiff, dropTo, List.map_cons, List.map_nil, List.filter_cons, List.filter_nil]
      · simp only [res, resV, tupV, tup2, tup3, LU, ↓step_conv, ex, Ro, RoD, OpD, epk, epochs, Mv.hx, idsOK, bs, wmask, LK.isW, LK.isA, LK.isP, step, num, X.ev, List.cons_append, List.nil_append, ne_eq, Nat.reduceLT, Int.reduceLE, Int.reduceLT, Int.cast_ofNat_Int, Nat.reducePow, Nat.reduceAnd, Nat.reduceOr, Nat.reduceShiftRight, BEq.rfl, Int.reduceToNat, vpick, vopt, optInt, isInt, vbuild, vbuildOK, vcaps, vcapsOK, elems, elemsOK, List.length_cons, List.length_nil, hget, hset, hdel, hhas, padd, V.ok, V.get, V.set, V.fget, V.fhas, V.fset, noR, Z.v, Z.sz, if_true, if_false, ite_true, ite_false, cond_true, cond_false, reduceCtorEq, forall_const, Nat.reduceAdd, Nat.reduceMul, Nat.reduceSub, Nat.reduceBEq, Nat.reduceEqDiff, dropTo, List.map_cons, List.map_nil, List.filter_cons, List.filter_nil, LT, SimL, ne_eq, Nat.reduceLT, SimA, Sim, SimH, frz, hget, hhas, List.getElem?_cons_zero, List.getElem?_cons_succ, List.getElem?_nil, BEq.rfl, if_true, reduceCtorEq, Option.some.injEq, Nat.reduceEqDiff, if_false, List.contains_cons, List.contains_nil, V.ok, V.get, V.fget, V.fhas, Nat.reduceLeDiff, implies_true, Nat.reduceBEq, Int.cast_ofNat_Int, dg]
        exact fun _ _ => rfl
  | succ h ih =>
    intro q hh hq
    refine runs_fr ok.k204 rfl fun x hx => ?_
    have e : q * 2 ^ (h + 1) = 2 * q * 2 ^ h := by rw [Nat.pow_succ]; ac_rfl
    have e2 : (2 * q + 1) * 2 ^ h = 2 * q * 2 ^ h + 2 ^ h := by rw [Nat.add_mul, Nat.one_mul]
    have e3 : 2 ^ (h + 1) = 2 ^ h + 2 ^ h := by rw [Nat.pow_succ]; omega
    by_cases hout : l.length ≤ q * 2 ^ (h + 1)
    · rw [node_out l (h + 1) q hout]
      have d1 : decide (((l.length : Nat) : Int) ≤ ((q * 2 ^ (h + 1) : Nat) : Int)) = true := decide_eq_true (by omega)
      have d3 : decide ((0 : Int) ≤ ((q * 2 ^ (h + 1) : Nat) : Int)) = true := decide_eq_true (by omega)
      rcases hlv with h1 | ⟨h1, h2⟩
      all_goals
        subst h1
        refine ex_sound 30 _ _ _ _ ?_
        simp only [f204, c204, row, d1, d3, LQ, ↓step_conv, OpD, epk, epochs, Mv.hx, idsOK, bs, wmask, LK.isW, LK.isA, LK.isP, step, num, X.ev, List.cons_append, List.nil_append, ne_eq, Nat.reduceLT, Int.reduceLE, Int.reduceLT, Int.cast_ofNat_Int, Nat.reducePow, Nat.reduceAnd, Nat.reduceOr, Nat.reduceShiftRight, BEq.rfl, Int.reduceToNat, vpick, vopt, optInt, isInt, vbuild, vbuildOK, vcaps, vcapsOK, elems, elemsOK, List.length_cons, List.length_nil, hget, hset, hdel, hhas, padd, V.ok, V.get, V.set, V.fget, V.fhas, V.fset, noR, Z.v, Z.sz, if_true, if_false, ite_true, ite_false, cond_true, cond_false, reduceCtorEq, forall_const, Nat.reduceAdd, Nat.reduceMul, Nat.reduceSub, Nat.reduceBEq, Nat.reduceEqDiff, dropTo, List.map_cons, List.map_nil, List.filter_cons, List.filter_nil, Nat.reduceLeDiff, Nat.testBit, Nat.reduceBneDiff, bne_self_eq_false, Nat.reduceBNe, ↓reduceIte, eqP_nn, eqV_nn, eqP_in, eqV_in, eqP_pn, eqV_pn, eqP_mn, eqV_mn]
        refine ⟨⟨by omega, by omega⟩, ?_⟩
        refine RetS.mk hx [] [] (dg (nought (h + 1))) [] 0 (by decide) ?_ ?_ trivial ⟨rfl, rfl, rfl⟩
        · simp only [res, resPs, resP, tupP, resV, LU, ↓step_conv, ex, Ro, RoD, OpD, epk, epochs, Mv.hx, idsOK, bs, wmask, LK.isW, LK.isA, LK.isP, step, num, X.ev, List.cons_append, List.nil_append, ne_eq, Nat.reduceLT, Int.reduceLE, Int.reduceLT, Int.cast_ofNat_Int, Nat.reducePow, Nat.reduceAnd, Nat.reduceOr, Nat.reduceShiftRight, BEq.rfl, Int.reduceToNat, vpick, vopt, optInt, isInt, vbuild, vbuildOK, vcaps, vcapsOK, elems, elemsOK, List.length_cons, List.length_nil, hget, hset, hdel, hhas, padd, V.ok, V.get, V.set, V.fget, V.fhas, V.fset, noR, Z.v, Z.sz, if_true, if_false, ite_true, ite_false, cond_true, cond_false, reduceCtorEq, forall_const, Nat.reduceAdd, Nat.reduceMul, Nat.reduceSub, Nat.reduceBEq, Nat.reduceEqDiff, dropTo, List.map_cons, List.map_nil, List.filter_cons, List.filter_nil]
        · simp only [res, resV, tupV, tup2, tup3, LU, ↓step_conv, ex, Ro, RoD, OpD, epk, epochs, Mv.hx, idsOK, bs, wmask, LK.isW, LK.isA, LK.isP, step, num, X.ev, List.cons_append, List.nil_append, ne_eq, Nat.reduceLT, Int.reduceLE, Int.reduceLT, Int.cast_ofNat_Int, Nat.reducePow, Nat.reduceAnd, Nat.reduceOr, Nat.reduceShiftRight, BEq.rfl, Int.reduceToNat, vpick, vopt, optInt, isInt, vbuild, vbuildOK, vcaps, vcapsOK, elems, elemsOK, List.length_cons, List.length_nil, hget, hset, hdel, hhas, padd, V.ok, V.get, V.set, V.fget, V.fhas, V.fset, noR, Z.v, Z.sz, if_true, if_false, ite_true, ite_false, cond_true, cond_false, reduceCtorEq, forall_const, Nat.reduceAdd, Nat.reduceMul, Nat.reduceSub, Nat.reduceBEq, Nat.reduceEqDiff, dropTo, List.map_cons, List.map_nil, List.filter_cons, List.filter_nil, LT, SimL, ne_eq, Nat.reduceLT, SimA, Sim, SimH, frz, hget, hhas, List.getElem?_cons_zero, List.getElem?_cons_succ, List.getElem?_nil, BEq.rfl, if_true, reduceCtorEq, Option.some.injEq, Nat.reduceEqDiff, if_false, List.contains_cons, List.contains_nil, V.ok, V.get, V.fget, V.fhas, Nat.reduceLeDiff, implies_true, Nat.reduceBEq, Int.cast_ofNat_Int, dg]
    · have d1 : decide (((l.length : Nat) : Int) ≤ ((q * 2 ^ (h + 1) : Nat) : Int)) = false := decide_eq_false (by omega)
      have d2 : decide (((h + 1 : Nat) : Int) = 0) = false := decide_eq_false (by omega)
      have hrow : lv = row l := by
        rcases hlv with h1 | ⟨_, h2⟩
        · exact h1
        · subst h2; simp at hout
      have w1 : IntKind.i64.wrap (((h + 1 : Nat) : Int) - 1) = (h : Nat) := by rw [wrap_i64 (by omega)]; omega
      have w2 : IntKind.u64.wrap (h : Int) = h := wrap_u64 (by omega)
      have w3 : IntKind.i64.wrap (((q * 2 ^ (h + 1) : Nat) : Int) + ((2 ^ h : Nat) : Int)) = (((2 * q + 1) * 2 ^ h : Nat) : Int) := by rw [e2, e, wrap_i64 (by omega)]; omega
      subst hrow
      refine ex_sound 30 _ _ _ _ ?_
      simp only [f204, c204, row, d1, d2, w1, w2, w3, shl_1 (show h ≤ 16 by omega), LQ, ↓step_conv, OpD, epk, epochs, Mv.hx, idsOK, bs, wmask, LK.isW, LK.isA, LK.isP, step, num, X.ev, List.cons_append, List.nil_append, ne_eq, Nat.reduceLT, Int.reduceLE, Int.reduceLT, Int.cast_ofNat_Int, Nat.reducePow, Nat.reduceAnd, Nat.reduceOr, Nat.reduceShiftRight, BEq.rfl, Int.reduceToNat, vpick, vopt, optInt, isInt, vbuild, vbuildOK, vcaps, vcapsOK, elems, elemsOK, List.length_cons, List.length_nil, hget, hset, hdel, hhas, padd, V.ok, V.get, V.set, V.fget, V.fhas, V.fset, noR, Z.v, Z.sz, if_true, if_false, ite_true, ite_false, cond_true, cond_false, reduceCtorEq, forall_const, Nat.reduceAdd, Nat.reduceMul, Nat.reduceSub, Nat.reduceBEq, Nat.reduceEqDiff, dropTo, List.map_cons, List.map_nil, List.filter_cons, List.filter_nil, Nat.reduceLeDiff, Nat.testBit, Nat.reduceBneDiff, bne_self_eq_false, Nat.reduceBNe, ↓reduceIte, eqP_nn, eqV_nn, eqP_in, eqV_in, eqP_pn, eqV_pn, eqP_mn, eqV_mn]
      have ih1 := ih (2 * q) (by omega) (by omega)
      rw [← e] at ih1
      refine call_pure ih1 (by simp only [row, LT, SimL, ne_eq, Nat.reduceLT, SimA, Sim, SimH, frz, hget, hhas, List.getElem?_cons_zero, List.getElem?_cons_succ, List.getElem?_nil, BEq.rfl, if_true, reduceCtorEq, Option.some.injEq, Nat.reduceEqDiff, if_false, List.contains_cons, List.contains_nil, V.ok, V.get, V.fget, V.fhas, Nat.reduceLeDiff, implies_true, Nat.reduceBEq, Int.cast_ofNat_Int]) rfl ?_
      refine ⟨by omega, ?_⟩
      refine call_pure (ih (2 * q + 1) (by omega) (by omega)) (by simp only [row, LT, SimL, ne_eq, Nat.reduceLT, SimA, Sim, SimH, frz, hget, hhas, List.getElem?_cons_zero, List.getElem?_cons_succ, List.getElem?_nil, BEq.rfl, if_true, reduceCtorEq, Option.some.injEq, Nat.reduceEqDiff, if_false, List.contains_cons, List.contains_nil, V.ok, V.get, V.fget, V.fhas, Nat.reduceLeDiff, implies_true, Nat.reduceBEq, Int.cast_ofNat_Int]) rfl ?_
      refine call_pure (runs_refPair ok _ _) ⟨(Sim_dg _ _ _ _ _).mpr rfl, (Sim_dg _ _ _ _ _).mpr rfl, trivial⟩ rfl ?_
      simp only [LQ, ↓step_conv, OpD, epk, epochs, Mv.hx, idsOK, bs, wmask, LK.isW, LK.isA, LK.isP, step, num, X.ev, List.cons_append, List.nil_append, ne_eq, Nat.reduceLT, Int.reduceLE, Int.reduceLT, Int.cast_ofNat_Int, Nat.reducePow, Nat.reduceAnd, Nat.reduceOr, Nat.reduceShiftRight, BEq.rfl, Int.reduceToNat, vpick, vopt, optInt, isInt, vbuild, vbuildOK, vcaps, vcapsOK, elems, elemsOK, List.length_cons, List.length_nil, hget, hset, hdel, hhas, padd, V.ok, V.get, V.set, V.fget, V.fhas, V.fset, noR, Z.v, Z.sz, if_true, if_false, ite_true, ite_false, cond_true, cond_false, reduceCtorEq, forall_const, Nat.reduceAdd, Nat.reduceMul, Nat.reduceSub, Nat.reduceBEq, Nat.reduceEqDiff, dropTo, List.map_cons, List.map_nil, List.filter_cons, List.filter_nil, Nat.reduceLeDiff, Nat.testBit, Nat.reduceBneDiff, bne_self_eq_false, Nat.reduceBNe, ↓reduceIte, eqP_nn, eqV_nn, eqP_in, eqV_in, eqP_pn, eqV_pn, eqP_mn, eqV_mn]
      refine RetS.mk hx [] [] (dg (node l (h + 1) q)) [] 0 (by decide) ?_ ?_ trivial ⟨rfl, rfl, rfl⟩
      · simp only [res, resPs, resP, tupP, resV, LU, ↓step_conv, ex, Ro, RoD, OpD, epk, epochs, Mv.hx, idsOK, bs, wmask, LK.isW, LK.isA, LK.isP, step, num, X.ev, List.cons_append, List.nil_append, ne_eq, Nat.reduceLT, Int.reduceLE, Int.reduceLT, Int.cast_ofNat_Int, Nat.reducePow, Nat.reduceAnd, Nat.reduceOr, Nat.reduceShiftRight, BEq.rfl, Int.reduceToNat, vpick, vopt, optInt, isInt, vbuild, vbuildOK, vcaps, vcapsOK, elems, elemsOK, List.length_cons, List.length_nil, hget, hset, hdel, hhas, padd, V.ok, V.get, V.set, V.fget, V.fhas, V.fset, noR, Z.v, Z.sz, if_true, if_false, ite_true, ite_false, cond_true, cond_false, reduceCtorEq, forall_const, Nat.reduceAdd, Nat.reduceMul, Nat.reduceSub, Nat.reduceBEq, Nat.reduceEqDiff, dropTo, List.map_cons, List.map_nil, List.filter_cons, List.filter_nil]
      · simp only [node_step]
        simp only [res, resV, tupV, tup2, tup3, LU, ↓step_conv, ex, Ro, RoD, OpD, epk, epochs, Mv.hx, idsOK, bs, wmask, LK.isW, LK.isA, LK.isP, step, num, X.ev, List.cons_append, List.nil_append, ne_eq, Nat.reduceLT, Int.reduceLE, Int.reduceLT, Int.cast_ofNat_Int, Nat.reducePow, Nat.reduceAnd, Nat.reduceOr, Nat.reduceShiftRight, BEq.rfl, Int.reduceToNat, vpick, vopt, optInt, isInt, vbuild, vbuildOK, vcaps, vcapsOK, elems, elemsOK, List.length_cons, List.length_nil, hget, hset, hdel, hhas, padd, V.ok, V.get, V.set, V.fget, V.fhas, V.fset, noR, Z.v, Z.sz, if_true, if_false, ite_true, ite_false, cond_true, cond_false, reduceCtorEq, forall_const, Nat.reduceAdd, Nat.reduceMul, Nat.reduceSub, Nat.reduceBEq, Nat.reduceEqDiff, dropTo, List.map_cons, List.map_nil, List.filter_cons, List.filter_nil, LT, SimL, ne_eq, Nat.reduceLT, SimA, Sim, SimH, frz, hget, hhas, List.getElem?_cons_zero, List.getElem?_cons_succ, List.getElem?_nil, BEq.rfl, if_true, reduceCtorEq, Option.some.injEq, Nat.reduceEqDiff, if_false, List.contains_cons, List.contains_nil, V.ok, V.get, V.fget, V.fhas, Nat.reduceLeDiff, implies_true, Nat.reduceBEq, Int.cast_ofNat_Int, dg]

theorem SimV_lvR {H : Hp} {m z : List Nat} {l : List Dg} {v : V} (h : lvR l v) : SimV H m z v v := by
  rcases h with h | ⟨h, _⟩
  · subst h; exact SimV_row _ _ _ _
  · subst h; trivial

theorem runs_refRoot {M : Seat} (ok : OkB M) (d : Nat) (hd : d ≤ 16) (l : List Dg) (lv : V) (hlv : lvR l lv) (hl : l.length ≤ 2 ^ d) :
    Runs M 56 [.int .i64 d, lv] [] 0 (fun r H' k' => r = tup2 (dg (node l d 0)) (.int .i64 0) ∧ H' = [] ∧ k' = 0) := by
  have hl2 : l.length ≤ 65536 := Nat.le_trans hl (Nat.pow_le_pow_right (by omega) hd)
  have hW := runs_Wrong ok d l.length hd hl
  have hU := runs_Under ok l lv hlv hl2 d 0 hd (by have := Nat.pow_le_pow_right (n := 2) (by omega) hd; omega)
  have e : ((0 * 2 ^ d : Nat) : Int) = 0 := by simp
  rw [e] at hU
  refine runs_fr ok.k56 rfl fun x hx => ?_
  have hS : ∀ H m z, SimV H m z lv lv := fun H m z => SimV_lvR hlv
  rcases hlv with h1 | ⟨h1, h2⟩
  all_goals
    subst h1
    refine ex_sound 30 _ _ _ _ ?_
    simp only [f56, c56, row, LQ, ↓step_conv, OpD, epk, epochs, Mv.hx, idsOK, bs, wmask, LK.isW, LK.isA, LK.isP, step, num, X.ev, List.cons_append, List.nil_append, ne_eq, Nat.reduceLT, Int.reduceLE, Int.reduceLT, Int.cast_ofNat_Int, Nat.reducePow, Nat.reduceAnd, Nat.reduceOr, Nat.reduceShiftRight, BEq.rfl, Int.reduceToNat, vpick, vopt, optInt, isInt, vbuild, vbuildOK, vcaps, vcapsOK, elems, elemsOK, List.length_cons, List.length_nil, hget, hset, hdel, hhas, padd, V.ok, V.get, V.set, V.fget, V.fhas, V.fset, noR, Z.v, Z.sz, if_true, if_false, ite_true, ite_false, cond_true, cond_false, reduceCtorEq, forall_const, Nat.reduceAdd, Nat.reduceMul, Nat.reduceSub, Nat.reduceBEq, Nat.reduceEqDiff, dropTo, List.map_cons, List.map_nil, List.filter_cons, List.filter_nil, Nat.reduceLeDiff, Nat.testBit, Nat.reduceBneDiff, bne_self_eq_false, Nat.reduceBNe, ↓reduceIte, eqP_nn, eqV_nn, eqP_in, eqV_in, eqP_pn, eqV_pn, eqP_mn, eqV_mn]
    try simp only [h2, List.length_nil, Int.natCast_zero] at hW
    refine call_pure hW (by simp only [LT, SimL, ne_eq, Nat.reduceLT, SimA, Sim, SimH, frz, hget, hhas, List.getElem?_cons_zero, List.getElem?_cons_succ, List.getElem?_nil, BEq.rfl, if_true, reduceCtorEq, Option.some.injEq, Nat.reduceEqDiff, if_false, List.contains_cons, List.contains_nil, V.ok, V.get, V.fget, V.fhas, Nat.reduceLeDiff, implies_true, Nat.reduceBEq, Int.cast_ofNat_Int]) rfl ?_
    simp only [LQ, ↓step_conv, OpD, epk, epochs, Mv.hx, idsOK, bs, wmask, LK.isW, LK.isA, LK.isP, step, num, X.ev, List.cons_append, List.nil_append, ne_eq, Nat.reduceLT, Int.reduceLE, Int.reduceLT, Int.cast_ofNat_Int, Nat.reducePow, Nat.reduceAnd, Nat.reduceOr, Nat.reduceShiftRight, BEq.rfl, Int.reduceToNat, vpick, vopt, optInt, isInt, vbuild, vbuildOK, vcaps, vcapsOK, elems, elemsOK, List.length_cons, List.length_nil, hget, hset, hdel, hhas, padd, V.ok, V.get, V.set, V.fget, V.fhas, V.fset, noR, Z.v, Z.sz, if_true, if_false, ite_true, ite_false, cond_true, cond_false, reduceCtorEq, forall_const, Nat.reduceAdd, Nat.reduceMul, Nat.reduceSub, Nat.reduceBEq, Nat.reduceEqDiff, dropTo, List.map_cons, List.map_nil, List.filter_cons, List.filter_nil, Nat.reduceLeDiff, Nat.testBit, Nat.reduceBneDiff, bne_self_eq_false, Nat.reduceBNe, ↓reduceIte, eqP_nn, eqV_nn, eqP_in, eqV_in, eqP_pn, eqV_pn, eqP_mn, eqV_mn]
    refine call_runs (runs_Zeros ok) False [] [] List.nodup_nil (by simp) rfl (by simp) trivial trivial ?_
    rintro r H' k' ⟨rfl, rfl, rfl⟩
    refine ⟨⟨by omega, fun h => h.elim⟩, ?_⟩
    simp only [nums1, LN, V.ren, renH, hrest, hdel, ren_lvV, List.getElem?_cons_zero, List.getElem?_cons_succ, List.append_nil, List.nil_append, List.cons_append, ne_eq, if_false, if_true, Nat.reduceEqDiff, reduceCtorEq]
    refine call_pureZ [176] hU ⟨hS _ _ _, rfl, rfl, by simp only [LT, SimL, ne_eq, Nat.reduceLT, SimA, Sim, SimH, frz, hget, hhas, List.getElem?_cons_zero, List.getElem?_cons_succ, List.getElem?_nil, BEq.rfl, if_true, reduceCtorEq, Option.some.injEq, Nat.reduceEqDiff, if_false, List.contains_cons, List.contains_nil, V.ok, V.get, V.fget, V.fhas, Nat.reduceLeDiff, implies_true, Nat.reduceBEq, Int.cast_ofNat_Int], trivial⟩ rfl ?_
    simp only [hrest, LQ, ↓step_conv, OpD, epk, epochs, Mv.hx, idsOK, bs, wmask, LK.isW, LK.isA, LK.isP, step, num, X.ev, List.cons_append, List.nil_append, ne_eq, Nat.reduceLT, Int.reduceLE, Int.reduceLT, Int.cast_ofNat_Int, Nat.reducePow, Nat.reduceAnd, Nat.reduceOr, Nat.reduceShiftRight, BEq.rfl, Int.reduceToNat, vpick, vopt, optInt, isInt, vbuild, vbuildOK, vcaps, vcapsOK, elems, elemsOK, List.length_cons, List.length_nil, hget, hset, hdel, hhas, padd, V.ok, V.get, V.set, V.fget, V.fhas, V.fset, noR, Z.v, Z.sz, if_true, if_false, ite_true, ite_false, cond_true, cond_false, reduceCtorEq, forall_const, Nat.reduceAdd, Nat.reduceMul, Nat.reduceSub, Nat.reduceBEq, Nat.reduceEqDiff, dropTo, List.map_cons, List.map_nil, List.filter_cons, List.filter_nil, Nat.reduceLeDiff, Nat.testBit, Nat.reduceBneDiff, bne_self_eq_false, Nat.reduceBNe, ↓reduceIte, eqP_nn, eqV_nn, eqP_in, eqV_in, eqP_pn, eqV_pn, eqP_mn, eqV_mn, LN, V.ren, renH, hrest, hdel, ren_lvV, List.getElem?_cons_zero, List.getElem?_cons_succ, List.append_nil, List.nil_append, List.cons_append, ne_eq, if_false, if_true, Nat.reduceEqDiff, reduceCtorEq]
    refine RetS.mk hx [] [] (tup2 (dg (node l d 0)) (.int .i64 0)) [] 0 (by decide) ?_ ?_ trivial ⟨rfl, rfl, rfl⟩
    · simp only [res, resPs, resP, tupP, resV, LU, ↓step_conv, ex, Ro, RoD, OpD, epk, epochs, Mv.hx, idsOK, bs, wmask, LK.isW, LK.isA, LK.isP, step, num, X.ev, List.cons_append, List.nil_append, ne_eq, Nat.reduceLT, Int.reduceLE, Int.reduceLT, Int.cast_ofNat_Int, Nat.reducePow, Nat.reduceAnd, Nat.reduceOr, Nat.reduceShiftRight, BEq.rfl, Int.reduceToNat, vpick, vopt, optInt, isInt, vbuild, vbuildOK, vcaps, vcapsOK, elems, elemsOK, List.length_cons, List.length_nil, hget, hset, hdel, hhas, padd, V.ok, V.get, V.set, V.fget, V.fhas, V.fset, noR, Z.v, Z.sz, if_true, if_false, ite_true, ite_false, cond_true, cond_false, reduceCtorEq, forall_const, Nat.reduceAdd, Nat.reduceMul, Nat.reduceSub, Nat.reduceBEq, Nat.reduceEqDiff, dropTo, List.map_cons, List.map_nil, List.filter_cons, List.filter_nil]
      rfl
    · simp only [res, resV, tupV, tup2, tup3, LU, ↓step_conv, ex, Ro, RoD, OpD, epk, epochs, Mv.hx, idsOK, bs, wmask, LK.isW, LK.isA, LK.isP, step, num, X.ev, List.cons_append, List.nil_append, ne_eq, Nat.reduceLT, Int.reduceLE, Int.reduceLT, Int.cast_ofNat_Int, Nat.reducePow, Nat.reduceAnd, Nat.reduceOr, Nat.reduceShiftRight, BEq.rfl, Int.reduceToNat, vpick, vopt, optInt, isInt, vbuild, vbuildOK, vcaps, vcapsOK, elems, elemsOK, List.length_cons, List.length_nil, hget, hset, hdel, hhas, padd, V.ok, V.get, V.set, V.fget, V.fhas, V.fset, noR, Z.v, Z.sz, if_true, if_false, ite_true, ite_false, cond_true, cond_false, reduceCtorEq, forall_const, Nat.reduceAdd, Nat.reduceMul, Nat.reduceSub, Nat.reduceBEq, Nat.reduceEqDiff, dropTo, List.map_cons, List.map_nil, List.filter_cons, List.filter_nil, LT, SimL, ne_eq, Nat.reduceLT, SimA, Sim, SimH, frz, hget, hhas, List.getElem?_cons_zero, List.getElem?_cons_succ, List.getElem?_nil, BEq.rfl, if_true, reduceCtorEq, Option.some.injEq, Nat.reduceEqDiff, if_false, List.contains_cons, List.contains_nil, V.ok, V.get, V.fget, V.fhas, Nat.reduceLeDiff, implies_true, Nat.reduceBEq, Int.cast_ofNat_Int, dg]
end Mv
namespace Mv
open Go
set_option maxRecDepth 20000
set_option maxHeartbeats 4000000
set_option linter.unusedSimpArgs false

theorem runs_refLeaf {M : Seat} (ok : OkB M) (v : BitVec 64) :
    Runs M 66 [W v] [] 0 (fun r H' k' => r = dg (leafD v) ∧ H' = [] ∧ k' = 0) := by
  refine runs_fr ok.k66 rfl fun x hx => ?_
  refine ex_sound 30 _ _ _ _ ?_
  simp only [f66, c66, LQ, ↓step_conv, OpD, epk, epochs, Mv.hx, idsOK, bs, wmask, LK.isW, LK.isA, LK.isP, step, num, X.ev, List.cons_append, List.nil_append, ne_eq, Nat.reduceLT, Int.reduceLE, Int.reduceLT, Int.cast_ofNat_Int, Nat.reducePow, Nat.reduceAnd, Nat.reduceOr, Nat.reduceShiftRight, BEq.rfl, Int.reduceToNat, vpick, vopt, optInt, isInt, vbuild, vbuildOK, vcaps, vcapsOK, elems, elemsOK, List.length_cons, List.length_nil, hget, hset, hdel, hhas, padd, V.ok, V.get, V.set, V.fget, V.fhas, V.fset, noR, Z.v, Z.sz, if_true, if_false, ite_true, ite_false, cond_true, cond_false, reduceCtorEq, forall_const, Nat.reduceAdd, Nat.reduceMul, Nat.reduceSub, Nat.reduceBEq, Nat.reduceEqDiff, dropTo, List.map_cons, List.map_nil, List.filter_cons, List.filter_nil, Nat.reduceLeDiff, Nat.testBit, Nat.reduceBneDiff, bne_self_eq_false, Nat.reduceBNe, ↓reduceIte, eqP_nn, eqV_nn, eqP_in, eqV_in, eqP_pn, eqV_pn, eqP_mn, eqV_mn]
  refine loop_rule (σ := Nat) (fun i => i ≤ 8) (fun i => fr 20 [(0, W v), (2, .ptr 0 []), (3, .ptr 1 []), (4, .int .i64 i)])
      (fun i => [(0, .ar 1 32 (fun _ => B 0)), (1, .ar 1 32 (fun j => B (if j < 24 + i then (leafD v).at j else 0)))]) (fun _ => 2) (fun i => 8 - i) 0 (by omega) ?_ ?_
  · refine Weak.fr [0, 16] [] hx (by simp only [fr_length]) (by decide) ?_ ?_
    · simp only [LT, SimL, ne_eq, Nat.reduceLT, SimA, Sim, SimH, frz, hget, hhas, List.getElem?_cons_zero, List.getElem?_cons_succ, List.getElem?_nil, BEq.rfl, if_true, reduceCtorEq, Option.some.injEq, Nat.reduceEqDiff, if_false, List.contains_cons, List.contains_nil, V.ok, V.get, V.fget, V.fhas, Nat.reduceLeDiff, implies_true, Nat.reduceBEq, Int.cast_ofNat_Int]
    · simp only [LT, SimL, ne_eq, Nat.reduceLT, SimA, Sim, SimH, frz, hget, hhas, List.getElem?_cons_zero, List.getElem?_cons_succ, List.getElem?_nil, BEq.rfl, if_true, reduceCtorEq, Option.some.injEq, Nat.reduceEqDiff, if_false, List.contains_cons, List.contains_nil, V.ok, V.get, V.fget, V.fhas, Nat.reduceLeDiff, implies_true, Nat.reduceBEq, Int.cast_ofNat_Int, B_0]
      intro j hj
      by_cases h : j < 24
      · rw [if_pos h, leafD, Dg.at_mk' _ _ hj, if_pos h]
      · rw [if_neg h]
  · intro i hi
    by_cases h8 : i = 8
    · subst h8
      have d0 : decide (((8 : Nat) : Int) < 8) = false := rfl
      (refine ex_sound 30 _ _ _ _ ?_; simp (maxSteps := 2000000) only [d0, LQ, ↓step_conv, OpD, epk, epochs, Mv.hx, idsOK, bs, wmask, LK.isW, LK.isA, LK.isP, step, num, X.ev, List.cons_append, List.nil_append, ne_eq, Nat.reduceLT, Int.reduceLE, Int.reduceLT, Int.cast_ofNat_Int, Nat.reducePow, Nat.reduceAnd, Nat.reduceOr, Nat.reduceShiftRight, BEq.rfl, Int.reduceToNat, vpick, vopt, optInt, isInt, vbuild, vbuildOK, vcaps, vcapsOK, elems, elemsOK, List.length_cons, List.length_nil, hget, hset, hdel, hhas, padd, V.ok, V.get, V.set, V.fget, V.fhas, V.fset, noR, Z.v, Z.sz, if_true, if_false, ite_true, ite_false, cond_true, cond_false, reduceCtorEq, forall_const, Nat.reduceAdd, Nat.reduceMul, Nat.reduceSub, Nat.reduceBEq, Nat.reduceEqDiff, dropTo, List.map_cons, List.map_nil, List.filter_cons, List.filter_nil, Nat.reduceLeDiff, Nat.testBit, Nat.reduceBneDiff, bne_self_eq_false, Nat.reduceBNe, ↓reduceIte, eqP_nn, eqV_nn, eqP_in, eqV_in, eqP_pn, eqV_pn, eqP_mn, eqV_mn])
      refine RetS.mk hx [] [] (dg (leafD v)) [] 0 (by decide) ?_ ?_ trivial ⟨rfl, rfl, rfl⟩
      · simp only [res, resPs, resP, tupP, resV, LU, ↓step_conv, ex, Ro, RoD, OpD, epk, epochs, Mv.hx, idsOK, bs, wmask, LK.isW, LK.isA, LK.isP, step, num, X.ev, List.cons_append, List.nil_append, ne_eq, Nat.reduceLT, Int.reduceLE, Int.reduceLT, Int.cast_ofNat_Int, Nat.reducePow, Nat.reduceAnd, Nat.reduceOr, Nat.reduceShiftRight, BEq.rfl, Int.reduceToNat, vpick, vopt, optInt, isInt, vbuild, vbuildOK, vcaps, vcapsOK, elems, elemsOK, List.length_cons, List.length_nil, hget, hset, hdel, hhas, padd, V.ok, V.get, V.set, V.fget, V.fhas, V.fset, noR, Z.v, Z.sz, if_true, if_false, ite_true, ite_false, cond_true, cond_false, reduceCtorEq, forall_const, Nat.reduceAdd, Nat.reduceMul, Nat.reduceSub, Nat.reduceBEq, Nat.reduceEqDiff, dropTo, List.map_cons, List.map_nil, List.filter_cons, List.filter_nil]
      · simp only [res, resV, tupV, tup2, tup3, LU, ↓step_conv, ex, Ro, RoD, OpD, epk, epochs, Mv.hx, idsOK, bs, wmask, LK.isW, LK.isA, LK.isP, step, num, X.ev, List.cons_append, List.nil_append, ne_eq, Nat.reduceLT, Int.reduceLE, Int.reduceLT, Int.cast_ofNat_Int, Nat.reducePow, Nat.reduceAnd, Nat.reduceOr, Nat.reduceShiftRight, BEq.rfl, Int.reduceToNat, vpick, vopt, optInt, isInt, vbuild, vbuildOK, vcaps, vcapsOK, elems, elemsOK, List.length_cons, List.length_nil, hget, hset, hdel, hhas, padd, V.ok, V.get, V.set, V.fget, V.fhas, V.fset, noR, Z.v, Z.sz, if_true, if_false, ite_true, ite_false, cond_true, cond_false, reduceCtorEq, forall_const, Nat.reduceAdd, Nat.reduceMul, Nat.reduceSub, Nat.reduceBEq, Nat.reduceEqDiff, dropTo, List.map_cons, List.map_nil, List.filter_cons, List.filter_nil, LT, SimL, ne_eq, Nat.reduceLT, SimA, Sim, SimH, frz, hget, hhas, List.getElem?_cons_zero, List.getElem?_cons_succ, List.getElem?_nil, BEq.rfl, if_true, reduceCtorEq, Option.some.injEq, Nat.reduceEqDiff, if_false, List.contains_cons, List.contains_nil, V.ok, V.get, V.fget, V.fhas, Nat.reduceLeDiff, implies_true, Nat.reduceBEq, Int.cast_ofNat_Int, dg]
        intro j hj
        rw [if_pos (by omega)]
    · have d0 : decide ((i : Int) < 8) = true := decide_eq_true (by omega)
      have w1 : IntKind.i64.wrap ((i : Int) + 1) = ((i + 1 : Nat) : Int) := by rw [wrap_i64 (by omega)]; omega
      have w2 : IntKind.i64.wrap (24 + (i : Int)) = ((24 + i : Nat) : Int) := by rw [wrap_i64 (by omega)]; omega
      have w3 : IntKind.i64.wrap (8 * (i : Int)) = ((8 * i : Nat) : Int) := by rw [wrap_i64 (by omega)]; omega
      have w4 : IntKind.i64.wrap (56 - ((8 * i : Nat) : Int)) = ((56 - 8 * i : Nat) : Int) := by rw [wrap_i64 (by omega)]; omega
      have w5 : IntKind.u64.wrap ((56 - 8 * i : Nat) : Int) = ((56 - 8 * i : Nat) : Int) := wrap_u64 (by omega)
      (refine ex_sound 30 _ _ _ _ ?_; simp (maxSteps := 2000000) only [d0, w1, w2, w3, w4, w5, LQ, ↓step_conv, OpD, epk, epochs, Mv.hx, idsOK, bs, wmask, LK.isW, LK.isA, LK.isP, step, num, X.ev, List.cons_append, List.nil_append, ne_eq, Nat.reduceLT, Int.reduceLE, Int.reduceLT, Int.cast_ofNat_Int, Nat.reducePow, Nat.reduceAnd, Nat.reduceOr, Nat.reduceShiftRight, BEq.rfl, Int.reduceToNat, vpick, vopt, optInt, isInt, vbuild, vbuildOK, vcaps, vcapsOK, elems, elemsOK, List.length_cons, List.length_nil, hget, hset, hdel, hhas, padd, V.ok, V.get, V.set, V.fget, V.fhas, V.fset, noR, Z.v, Z.sz, if_true, if_false, ite_true, ite_false, cond_true, cond_false, reduceCtorEq, forall_const, Nat.reduceAdd, Nat.reduceMul, Nat.reduceSub, Nat.reduceBEq, Nat.reduceEqDiff, dropTo, List.map_cons, List.map_nil, List.filter_cons, List.filter_nil, Nat.reduceLeDiff, Nat.testBit, Nat.reduceBneDiff, bne_self_eq_false, Nat.reduceBNe, ↓reduceIte, eqP_nn, eqV_nn, eqP_in, eqV_in, eqP_pn, eqV_pn, eqP_mn, eqV_mn])
      refine ⟨by omega, ⟨by omega, by omega⟩, by omega, i + 1, by omega, by omega, ?_⟩
      refine Weak.fr [0, 1] [] hx (by simp only [fr_length]) (by decide) ?_ ?_
      · simp only [LT, SimL, ne_eq, Nat.reduceLT, SimA, Sim, SimH, frz, hget, hhas, List.getElem?_cons_zero, List.getElem?_cons_succ, List.getElem?_nil, BEq.rfl, if_true, reduceCtorEq, Option.some.injEq, Nat.reduceEqDiff, if_false, List.contains_cons, List.contains_nil, V.ok, V.get, V.fget, V.fhas, Nat.reduceLeDiff, implies_true, Nat.reduceBEq, Int.cast_ofNat_Int]
      · simp only [LT, SimL, ne_eq, Nat.reduceLT, SimA, Sim, SimH, frz, hget, hhas, List.getElem?_cons_zero, List.getElem?_cons_succ, List.getElem?_nil, BEq.rfl, if_true, reduceCtorEq, Option.some.injEq, Nat.reduceEqDiff, if_false, List.contains_cons, List.contains_nil, V.ok, V.get, V.fget, V.fhas, Nat.reduceLeDiff, implies_true, Nat.reduceBEq, Int.cast_ofNat_Int]
        intro j hj
        by_cases h1 : j = 24 + i
        · subst h1
          rw [if_pos rfl, if_pos (by omega), leafD, Dg.at_mk' _ _ hj, if_neg (by omega), Nat.add_sub_cancel_left]
        · rw [if_neg h1]
          by_cases h2 : j < 24 + i
          · rw [if_pos h2, if_pos (by omega)]
          · rw [if_neg h2, if_neg (by omega)]

/-- Four words as a digest. -/
def fourD (w : Nat → BitVec 64) : Dg := Dg.mk' fun j => (w (j / 8) >>> (56 - 8 * (j % 8))).setWidth 8
def w4 (a b c d : BitVec 64) (j : Nat) : BitVec 64 := if j = 0 then a else if j = 1 then b else if j = 2 then c else d

theorem runs_refFour {M : Seat} (ok : OkB M) (a b c d : BitVec 64) :
    Runs M 209 [W a, W b, W c, W d] [] 0 (fun r H' k' => r = dg (fourD (w4 a b c d)) ∧ H' = [] ∧ k' = 0) := by
  refine runs_fr ok.k209 rfl fun x hx => ?_
  refine ex_sound 30 _ _ _ _ ?_
  simp only [f209, c209, LQ, ↓step_conv, OpD, epk, epochs, Mv.hx, idsOK, bs, wmask, LK.isW, LK.isA, LK.isP, step, num, X.ev, List.cons_append, List.nil_append, ne_eq, Nat.reduceLT, Int.reduceLE, Int.reduceLT, Int.cast_ofNat_Int, Nat.reducePow, Nat.reduceAnd, Nat.reduceOr, Nat.reduceShiftRight, BEq.rfl, Int.reduceToNat, vpick, vopt, optInt, isInt, vbuild, vbuildOK, vcaps, vcapsOK, elems, elemsOK, List.length_cons, List.length_nil, hget, hset, hdel, hhas, padd, V.ok, V.get, V.set, V.fget, V.fhas, V.fset, noR, Z.v, Z.sz, if_true, if_false, ite_true, ite_false, cond_true, cond_false, reduceCtorEq, forall_const, Nat.reduceAdd, Nat.reduceMul, Nat.reduceSub, Nat.reduceBEq, Nat.reduceEqDiff, dropTo, List.map_cons, List.map_nil, List.filter_cons, List.filter_nil, Nat.reduceLeDiff, Nat.testBit, Nat.reduceBneDiff, bne_self_eq_false, Nat.reduceBNe, ↓reduceIte, eqP_nn, eqV_nn, eqP_in, eqV_in, eqP_pn, eqV_pn, eqP_mn, eqV_mn]
  refine loop_rule (σ := Nat) (fun i => i ≤ 32) (fun i => fr 36 [(8, .ptr 0 []), (9, .sl 1 [] 0 4 1), (10, .ptr 2 []), (11, .int .i64 i)])
      (fun i => [(0, .ar 1 32 (fun _ => B 0)), (1, .ar 1 4 (fun j => W (w4 a b c d j))), (2, .ar 1 32 (fun j => B (if j < i then (fourD (w4 a b c d)).at j else 0)))]) (fun _ => 3) (fun i => 32 - i) 0 (by omega) ?_ ?_
  · refine Weak.fr [0, 80, 112] [] hx (by simp only [fr_length]) (by decide) ?_ ?_
    · simp only [LT, SimL, ne_eq, Nat.reduceLT, SimA, Sim, SimH, frz, hget, hhas, List.getElem?_cons_zero, List.getElem?_cons_succ, List.getElem?_nil, BEq.rfl, if_true, reduceCtorEq, Option.some.injEq, Nat.reduceEqDiff, if_false, List.contains_cons, List.contains_nil, V.ok, V.get, V.fget, V.fhas, Nat.reduceLeDiff, implies_true, Nat.reduceBEq, Int.cast_ofNat_Int]
    · simp only [LT, SimL, ne_eq, Nat.reduceLT, SimA, Sim, SimH, frz, hget, hhas, List.getElem?_cons_zero, List.getElem?_cons_succ, List.getElem?_nil, BEq.rfl, if_true, reduceCtorEq, Option.some.injEq, Nat.reduceEqDiff, if_false, List.contains_cons, List.contains_nil, V.ok, V.get, V.fget, V.fhas, Nat.reduceLeDiff, implies_true, Nat.reduceBEq, Int.cast_ofNat_Int, B_0]
      refine ⟨?_, fun j _ => by rw [if_neg (by omega)]⟩
      intro j hj
      unfold w4
      repeat' split
      all_goals first | exact (Sim_W _ _ _ _ _).mpr rfl | omega
  · intro i hi
    generalize w4 a b c d = w
    by_cases h32 : i = 32
    · subst h32
      have d0 : decide (((32 : Nat) : Int) < 32) = false := rfl
      (refine ex_sound 30 _ _ _ _ ?_; simp (maxSteps := 2000000) only [d0, LQ, ↓step_conv, OpD, epk, epochs, Mv.hx, idsOK, bs, wmask, LK.isW, LK.isA, LK.isP, step, num, X.ev, List.cons_append, List.nil_append, ne_eq, Nat.reduceLT, Int.reduceLE, Int.reduceLT, Int.cast_ofNat_Int, Nat.reducePow, Nat.reduceAnd, Nat.reduceOr, Nat.reduceShiftRight, BEq.rfl, Int.reduceToNat, vpick, vopt, optInt, isInt, vbuild, vbuildOK, vcaps, vcapsOK, elems, elemsOK, List.length_cons, List.length_nil, hget, hset, hdel, hhas, padd, V.ok, V.get, V.set, V.fget, V.fhas, V.fset, noR, Z.v, Z.sz, if_true, if_false, ite_true, ite_false, cond_true, cond_false, reduceCtorEq, forall_const, Nat.reduceAdd, Nat.reduceMul, Nat.reduceSub, Nat.reduceBEq, Nat.reduceEqDiff, dropTo, List.map_cons, List.map_nil, List.filter_cons, List.filter_nil, Nat.reduceLeDiff, Nat.testBit, Nat.reduceBneDiff, bne_self_eq_false, Nat.reduceBNe, ↓reduceIte, eqP_nn, eqV_nn, eqP_in, eqV_in, eqP_pn, eqV_pn, eqP_mn, eqV_mn])
      refine RetS.mk hx [] [] (dg (fourD w)) [] 0 (by decide) ?_ ?_ trivial ⟨rfl, rfl, rfl⟩
      · simp only [res, resPs, resP, tupP, resV, LU, ↓step_conv, ex, Ro, RoD, OpD, epk, epochs, Mv.hx, idsOK, bs, wmask, LK.isW, LK.isA, LK.isP, step, num, X.ev, List.cons_append, List.nil_append, ne_eq, Nat.reduceLT, Int.reduceLE, Int.reduceLT, Int.cast_ofNat_Int, Nat.reducePow, Nat.reduceAnd, Nat.reduceOr, Nat.reduceShiftRight, BEq.rfl, Int.reduceToNat, vpick, vopt, optInt, isInt, vbuild, vbuildOK, vcaps, vcapsOK, elems, elemsOK, List.length_cons, List.length_nil, hget, hset, hdel, hhas, padd, V.ok, V.get, V.set, V.fget, V.fhas, V.fset, noR, Z.v, Z.sz, if_true, if_false, ite_true, ite_false, cond_true, cond_false, reduceCtorEq, forall_const, Nat.reduceAdd, Nat.reduceMul, Nat.reduceSub, Nat.reduceBEq, Nat.reduceEqDiff, dropTo, List.map_cons, List.map_nil, List.filter_cons, List.filter_nil]
      · simp only [res, resV, tupV, tup2, tup3, LU, ↓step_conv, ex, Ro, RoD, OpD, epk, epochs, Mv.hx, idsOK, bs, wmask, LK.isW, LK.isA, LK.isP, step, num, X.ev, List.cons_append, List.nil_append, ne_eq, Nat.reduceLT, Int.reduceLE, Int.reduceLT, Int.cast_ofNat_Int, Nat.reducePow, Nat.reduceAnd, Nat.reduceOr, Nat.reduceShiftRight, BEq.rfl, Int.reduceToNat, vpick, vopt, optInt, isInt, vbuild, vbuildOK, vcaps, vcapsOK, elems, elemsOK, List.length_cons, List.length_nil, hget, hset, hdel, hhas, padd, V.ok, V.get, V.set, V.fget, V.fhas, V.fset, noR, Z.v, Z.sz, if_true, if_false, ite_true, ite_false, cond_true, cond_false, reduceCtorEq, forall_const, Nat.reduceAdd, Nat.reduceMul, Nat.reduceSub, Nat.reduceBEq, Nat.reduceEqDiff, dropTo, List.map_cons, List.map_nil, List.filter_cons, List.filter_nil, LT, SimL, ne_eq, Nat.reduceLT, SimA, Sim, SimH, frz, hget, hhas, List.getElem?_cons_zero, List.getElem?_cons_succ, List.getElem?_nil, BEq.rfl, if_true, reduceCtorEq, Option.some.injEq, Nat.reduceEqDiff, if_false, List.contains_cons, List.contains_nil, V.ok, V.get, V.fget, V.fhas, Nat.reduceLeDiff, implies_true, Nat.reduceBEq, Int.cast_ofNat_Int, dg]
        intro j hj
        rw [if_pos hj]
    · have d0 : decide ((i : Int) < 32) = true := decide_eq_true (by omega)
      have w1 : IntKind.i64.wrap ((i : Int) + 1) = ((i + 1 : Nat) : Int) := by rw [wrap_i64 (by omega)]; omega
      have w2 : IntKind.i64.wrap ((i : Int).tdiv 8) = ((i / 8 : Nat) : Int) := by rw [Int.tdiv_eq_ediv_of_nonneg (by omega), wrap_i64 (by omega)]; omega
      have w3 : (i : Int).tmod 8 = ((i % 8 : Nat) : Int) := by rw [Int.tmod_eq_emod_of_nonneg (by omega)]; omega
      have w4 : IntKind.i64.wrap (8 * ((i % 8 : Nat) : Int)) = ((8 * (i % 8) : Nat) : Int) := by rw [wrap_i64 (by omega)]; omega
      have w5 : IntKind.i64.wrap (56 - ((8 * (i % 8) : Nat) : Int)) = ((56 - 8 * (i % 8) : Nat) : Int) := by rw [wrap_i64 (by omega)]; omega
      have w6 : IntKind.u64.wrap ((56 - 8 * (i % 8) : Nat) : Int) = ((56 - 8 * (i % 8) : Nat) : Int) := wrap_u64 (by omega)
      (refine ex_sound 30 _ _ _ _ ?_; simp (maxSteps := 2000000) only [d0, w1, w2, w3, w4, w5, w6, LQ, ↓step_conv, OpD, epk, epochs, Mv.hx, idsOK, bs, wmask, LK.isW, LK.isA, LK.isP, step, num, X.ev, List.cons_append, List.nil_append, ne_eq, Nat.reduceLT, Int.reduceLE, Int.reduceLT, Int.cast_ofNat_Int, Nat.reducePow, Nat.reduceAnd, Nat.reduceOr, Nat.reduceShiftRight, BEq.rfl, Int.reduceToNat, vpick, vopt, optInt, isInt, vbuild, vbuildOK, vcaps, vcapsOK, elems, elemsOK, List.length_cons, List.length_nil, hget, hset, hdel, hhas, padd, V.ok, V.get, V.set, V.fget, V.fhas, V.fset, noR, Z.v, Z.sz, if_true, if_false, ite_true, ite_false, cond_true, cond_false, reduceCtorEq, forall_const, Nat.reduceAdd, Nat.reduceMul, Nat.reduceSub, Nat.reduceBEq, Nat.reduceEqDiff, dropTo, List.map_cons, List.map_nil, List.filter_cons, List.filter_nil, Nat.reduceLeDiff, Nat.testBit, Nat.reduceBneDiff, bne_self_eq_false, Nat.reduceBNe, ↓reduceIte, eqP_nn, eqV_nn, eqP_in, eqV_in, eqP_pn, eqV_pn, eqP_mn, eqV_mn])
      refine ⟨by omega, ⟨by omega, by omega⟩, by omega, by omega, by omega, ⟨by omega, by omega⟩, by omega, i + 1, by omega, by omega, ?_⟩
      refine Weak.fr [0, 1, 2] [] hx (by simp only [fr_length]) (by decide) ?_ ?_
      · simp only [LT, SimL, ne_eq, Nat.reduceLT, SimA, Sim, SimH, frz, hget, hhas, List.getElem?_cons_zero, List.getElem?_cons_succ, List.getElem?_nil, BEq.rfl, if_true, reduceCtorEq, Option.some.injEq, Nat.reduceEqDiff, if_false, List.contains_cons, List.contains_nil, V.ok, V.get, V.fget, V.fhas, Nat.reduceLeDiff, implies_true, Nat.reduceBEq, Int.cast_ofNat_Int]
      · simp only [LT, SimL, ne_eq, Nat.reduceLT, SimA, Sim, SimH, frz, hget, hhas, List.getElem?_cons_zero, List.getElem?_cons_succ, List.getElem?_nil, BEq.rfl, if_true, reduceCtorEq, Option.some.injEq, Nat.reduceEqDiff, if_false, List.contains_cons, List.contains_nil, V.ok, V.get, V.fget, V.fhas, Nat.reduceLeDiff, implies_true, Nat.reduceBEq, Int.cast_ofNat_Int]
        intro j hj
        by_cases h1 : j = i
        · subst h1
          rw [if_pos rfl, if_pos (by omega), fourD, Dg.at_mk' _ _ hj]
        · rw [if_neg h1]
          by_cases h2 : j < i
          · rw [if_pos h2, if_pos (by omega)]
          · rw [if_neg h2, if_neg (by omega)]

theorem runs_four {M : Seat} (ok : OkA M) (okB : OkB M) (n : Nat) (hn : 4 ≤ n) (w : Nat → BitVec 64) :
    Runs M 208 [.lst 1 n (fun j => W (w j))] [] 0 (fun r H' k' => r = dg (fourD w) ∧ H' = [] ∧ k' = 0) := by
  refine runs_fr okB.k208 rfl fun x hx => ?_
  refine ex_sound 30 _ _ _ _ ?_
  simp only [f208, c208, LQ, ↓step_conv, OpD, epk, epochs, Mv.hx, idsOK, bs, wmask, LK.isW, LK.isA, LK.isP, step, num, X.ev, List.cons_append, List.nil_append, ne_eq, Nat.reduceLT, Int.reduceLE, Int.reduceLT, Int.cast_ofNat_Int, Nat.reducePow, Nat.reduceAnd, Nat.reduceOr, Nat.reduceShiftRight, BEq.rfl, Int.reduceToNat, vpick, vopt, optInt, isInt, vbuild, vbuildOK, vcaps, vcapsOK, elems, elemsOK, List.length_cons, List.length_nil, hget, hset, hdel, hhas, padd, V.ok, V.get, V.set, V.fget, V.fhas, V.fset, noR, Z.v, Z.sz, if_true, if_false, ite_true, ite_false, cond_true, cond_false, reduceCtorEq, forall_const, Nat.reduceAdd, Nat.reduceMul, Nat.reduceSub, Nat.reduceBEq, Nat.reduceEqDiff, dropTo, List.map_cons, List.map_nil, List.filter_cons, List.filter_nil, Nat.reduceLeDiff, Nat.testBit, Nat.reduceBneDiff, bne_self_eq_false, Nat.reduceBNe, ↓reduceIte, eqP_nn, eqV_nn, eqP_in, eqV_in, eqP_pn, eqV_pn, eqP_mn, eqV_mn]
  refine loop_rule (σ := Nat) (fun i => i ≤ 4) (fun i => fr 18 [(0, .lst 1 n (fun j => W (w j))), (2, .ptr 0 []), (3, .ptr 1 []), (5, .int .i64 i)])
      (fun i => [(0, .ar 1 32 (fun _ => B 0)), (1, .ar 1 32 (fun j => B (if j < 8 * i then (fourD w).at j else 0)))]) (fun _ => 2) (fun i => 4 - i) 0 (by omega) ?_ ?_
  · refine Weak.fr [0, 16] [] hx (by simp only [fr_length]) (by decide) ?_ ?_
    · simp only [LT, SimL, ne_eq, Nat.reduceLT, SimA, Sim, SimH, frz, hget, hhas, List.getElem?_cons_zero, List.getElem?_cons_succ, List.getElem?_nil, BEq.rfl, if_true, reduceCtorEq, Option.some.injEq, Nat.reduceEqDiff, if_false, List.contains_cons, List.contains_nil, V.ok, V.get, V.fget, V.fhas, Nat.reduceLeDiff, implies_true, Nat.reduceBEq, Int.cast_ofNat_Int]
    · simp only [LT, SimL, ne_eq, Nat.reduceLT, SimA, Sim, SimH, frz, hget, hhas, List.getElem?_cons_zero, List.getElem?_cons_succ, List.getElem?_nil, BEq.rfl, if_true, reduceCtorEq, Option.some.injEq, Nat.reduceEqDiff, if_false, List.contains_cons, List.contains_nil, V.ok, V.get, V.fget, V.fhas, Nat.reduceLeDiff, implies_true, Nat.reduceBEq, Int.cast_ofNat_Int, B_0]
      intro j hj
      rw [if_neg (by omega)]
  · intro i hi
    by_cases h4 : i = 4
    · subst h4
      have d0 : decide (((4 : Nat) : Int) < 4) = false := rfl
      (refine ex_sound 30 _ _ _ _ ?_; simp (maxSteps := 2000000) only [d0, LQ, ↓step_conv, OpD, epk, epochs, Mv.hx, idsOK, bs, wmask, LK.isW, LK.isA, LK.isP, step, num, X.ev, List.cons_append, List.nil_append, ne_eq, Nat.reduceLT, Int.reduceLE, Int.reduceLT, Int.cast_ofNat_Int, Nat.reducePow, Nat.reduceAnd, Nat.reduceOr, Nat.reduceShiftRight, BEq.rfl, Int.reduceToNat, vpick, vopt, optInt, isInt, vbuild, vbuildOK, vcaps, vcapsOK, elems, elemsOK, List.length_cons, List.length_nil, hget, hset, hdel, hhas, padd, V.ok, V.get, V.set, V.fget, V.fhas, V.fset, noR, Z.v, Z.sz, if_true, if_false, ite_true, ite_false, cond_true, cond_false, reduceCtorEq, forall_const, Nat.reduceAdd, Nat.reduceMul, Nat.reduceSub, Nat.reduceBEq, Nat.reduceEqDiff, dropTo, List.map_cons, List.map_nil, List.filter_cons, List.filter_nil, Nat.reduceLeDiff, Nat.testBit, Nat.reduceBneDiff, bne_self_eq_false, Nat.reduceBNe, ↓reduceIte, eqP_nn, eqV_nn, eqP_in, eqV_in, eqP_pn, eqV_pn, eqP_mn, eqV_mn])
      refine RetS.mk hx [] [] (dg (fourD w)) [] 0 (by decide) ?_ ?_ trivial ⟨rfl, rfl, rfl⟩
      · simp only [res, resPs, resP, tupP, resV, LU, ↓step_conv, ex, Ro, RoD, OpD, epk, epochs, Mv.hx, idsOK, bs, wmask, LK.isW, LK.isA, LK.isP, step, num, X.ev, List.cons_append, List.nil_append, ne_eq, Nat.reduceLT, Int.reduceLE, Int.reduceLT, Int.cast_ofNat_Int, Nat.reducePow, Nat.reduceAnd, Nat.reduceOr, Nat.reduceShiftRight, BEq.rfl, Int.reduceToNat, vpick, vopt, optInt, isInt, vbuild, vbuildOK, vcaps, vcapsOK, elems, elemsOK, List.length_cons, List.length_nil, hget, hset, hdel, hhas, padd, V.ok, V.get, V.set, V.fget, V.fhas, V.fset, noR, Z.v, Z.sz, if_true, if_false, ite_true, ite_false, cond_true, cond_false, reduceCtorEq, forall_const, Nat.reduceAdd, Nat.reduceMul, Nat.reduceSub, Nat.reduceBEq, Nat.reduceEqDiff, dropTo, List.map_cons, List.map_nil, List.filter_cons, List.filter_nil]
      · simp only [res, resV, tupV, tup2, tup3, LU, ↓step_conv, ex, Ro, RoD, OpD, epk, epochs, Mv.hx, idsOK, bs, wmask, LK.isW, LK.isA, LK.isP, step, num, X.ev, List.cons_append, List.nil_append, ne_eq, Nat.reduceLT, Int.reduceLE, Int.reduceLT, Int.cast_ofNat_Int, Nat.reducePow, Nat.reduceAnd, Nat.reduceOr, Nat.reduceShiftRight, BEq.rfl, Int.reduceToNat, vpick, vopt, optInt, isInt, vbuild, vbuildOK, vcaps, vcapsOK, elems, elemsOK, List.length_cons, List.length_nil, hget, hset, hdel, hhas, padd, V.ok, V.get, V.set, V.fget, V.fhas, V.fset, noR, Z.v, Z.sz, if_true, if_false, ite_true, ite_false, cond_true, cond_false, reduceCtorEq, forall_const, Nat.reduceAdd, Nat.reduceMul, Nat.reduceSub, Nat.reduceBEq, Nat.reduceEqDiff, dropTo, List.map_cons, List.map_nil, List.filter_cons, List.filter_nil, LT, SimL, ne_eq, Nat.reduceLT, SimA, Sim, SimH, frz, hget, hhas, List.getElem?_cons_zero, List.getElem?_cons_succ, List.getElem?_nil, BEq.rfl, if_true, reduceCtorEq, Option.some.injEq, Nat.reduceEqDiff, if_false, List.contains_cons, List.contains_nil, V.ok, V.get, V.fget, V.fhas, Nat.reduceLeDiff, implies_true, Nat.reduceBEq, Int.cast_ofNat_Int, dg]
        intro j hj
        rw [if_pos (by omega)]
    · have d0 : decide ((i : Int) < 4) = true := decide_eq_true (by omega)
      have w1 : IntKind.i64.wrap ((i : Int) + 1) = ((i + 1 : Nat) : Int) := by rw [wrap_i64 (by omega)]; omega
      have w2 : IntKind.i64.wrap (8 * (i : Int)) = ((8 * i : Nat) : Int) := by rw [wrap_i64 (by omega)]; omega
      (refine ex_sound 30 _ _ _ _ ?_; simp (maxSteps := 2000000) only [d0, w1, w2, LQ, ↓step_conv, OpD, epk, epochs, Mv.hx, idsOK, bs, wmask, LK.isW, LK.isA, LK.isP, step, num, X.ev, List.cons_append, List.nil_append, ne_eq, Nat.reduceLT, Int.reduceLE, Int.reduceLT, Int.cast_ofNat_Int, Nat.reducePow, Nat.reduceAnd, Nat.reduceOr, Nat.reduceShiftRight, BEq.rfl, Int.reduceToNat, vpick, vopt, optInt, isInt, vbuild, vbuildOK, vcaps, vcapsOK, elems, elemsOK, List.length_cons, List.length_nil, hget, hset, hdel, hhas, padd, V.ok, V.get, V.set, V.fget, V.fhas, V.fset, noR, Z.v, Z.sz, if_true, if_false, ite_true, ite_false, cond_true, cond_false, reduceCtorEq, forall_const, Nat.reduceAdd, Nat.reduceMul, Nat.reduceSub, Nat.reduceBEq, Nat.reduceEqDiff, dropTo, List.map_cons, List.map_nil, List.filter_cons, List.filter_nil, Nat.reduceLeDiff, Nat.testBit, Nat.reduceBneDiff, bne_self_eq_false, Nat.reduceBNe, ↓reduceIte, eqP_nn, eqV_nn, eqP_in, eqV_in, eqP_pn, eqV_pn, eqP_mn, eqV_mn])
      have hcall := call_runs (H := [(0, .ar 1 32 fun _ => B 0), (1, .ar 1 32 fun j => B (if j < 8 * i then (fourD w).at j else 0))]) (us := [.sl 1 [] (8 * i) (32 - 8 * i) 1, W (w i)]) (n := 290)
        (K := fun v' H'' => v' = .tup .fnil ∧ H'' = [(1, .ar 1 32 (fun j => .int .u8 (if 8 * i ≤ j ∧ j < 8 * i + 8 then byt ((w i).toNat : Int) (j - 8 * i) else ((if j < 8 * i then (fourD w).at j else 0 : BitVec 8).toNat : Int)))), (0, .ar 1 32 fun _ => B 0)])
        (runs_Put ok.k312 32 (8 * i) (32 - 8 * i) (fun j => ((if j < 8 * i then (fourD w).at j else 0 : BitVec 8).toNat : Int)) ((w i).toNat : Int) (by omega) (by omega) (by omega)) False [1] [] (by simp) (by simp) rfl (by simp [hhas]) (by simp only [LT, SimL, ne_eq, Nat.reduceLT, SimA, Sim, SimH, frz, hget, hhas, List.getElem?_cons_zero, List.getElem?_cons_succ, List.getElem?_nil, BEq.rfl, if_true, reduceCtorEq, Option.some.injEq, Nat.reduceEqDiff, if_false, List.contains_cons, List.contains_nil, V.ok, V.get, V.fget, V.fhas, Nat.reduceLeDiff, implies_true, Nat.reduceBEq, Int.cast_ofNat_Int, W]) (by simp only [LT, SimL, ne_eq, Nat.reduceLT, SimA, Sim, SimH, frz, hget, hhas, List.getElem?_cons_zero, List.getElem?_cons_succ, List.getElem?_nil, BEq.rfl, if_true, reduceCtorEq, Option.some.injEq, Nat.reduceEqDiff, if_false, List.contains_cons, List.contains_nil, V.ok, V.get, V.fget, V.fhas, Nat.reduceLeDiff, implies_true, Nat.reduceBEq, Int.cast_ofNat_Int]; exact fun _ _ => rfl)
        (by rintro r H' k' ⟨rfl, rfl, rfl⟩; exact ⟨⟨by omega, fun h => h.elim⟩, rfl, rfl⟩)
      refine ⟨⟨by omega, by omega⟩, ⟨by omega, by omega⟩, ⟨by omega, by omega⟩, _, _, hcall, ?_⟩
      clear hcall
      simp only [LQ, ↓step_conv, OpD, epk, epochs, Mv.hx, idsOK, bs, wmask, LK.isW, LK.isA, LK.isP, step, num, X.ev, List.cons_append, List.nil_append, ne_eq, Nat.reduceLT, Int.reduceLE, Int.reduceLT, Int.cast_ofNat_Int, Nat.reducePow, Nat.reduceAnd, Nat.reduceOr, Nat.reduceShiftRight, BEq.rfl, Int.reduceToNat, vpick, vopt, optInt, isInt, vbuild, vbuildOK, vcaps, vcapsOK, elems, elemsOK, List.length_cons, List.length_nil, hget, hset, hdel, hhas, padd, V.ok, V.get, V.set, V.fget, V.fhas, V.fset, noR, Z.v, Z.sz, if_true, if_false, ite_true, ite_false, cond_true, cond_false, reduceCtorEq, forall_const, Nat.reduceAdd, Nat.reduceMul, Nat.reduceSub, Nat.reduceBEq, Nat.reduceEqDiff, dropTo, List.map_cons, List.map_nil, List.filter_cons, List.filter_nil, Nat.reduceLeDiff, Nat.testBit, Nat.reduceBneDiff, bne_self_eq_false, Nat.reduceBNe, ↓reduceIte, eqP_nn, eqV_nn, eqP_in, eqV_in, eqP_pn, eqV_pn, eqP_mn, eqV_mn]
      refine ⟨i + 1, by omega, by omega, ?_⟩
      refine Weak.fr [0, 1] [] hx (by simp only [fr_length]) (by decide) ?_ ?_
      · simp only [LT, SimL, ne_eq, Nat.reduceLT, SimA, Sim, SimH, frz, hget, hhas, List.getElem?_cons_zero, List.getElem?_cons_succ, List.getElem?_nil, BEq.rfl, if_true, reduceCtorEq, Option.some.injEq, Nat.reduceEqDiff, if_false, List.contains_cons, List.contains_nil, V.ok, V.get, V.fget, V.fhas, Nat.reduceLeDiff, implies_true, Nat.reduceBEq, Int.cast_ofNat_Int]
      · simp only [LT, SimL, ne_eq, Nat.reduceLT, SimA, Sim, SimH, frz, hget, hhas, List.getElem?_cons_zero, List.getElem?_cons_succ, List.getElem?_nil, BEq.rfl, if_true, reduceCtorEq, Option.some.injEq, Nat.reduceEqDiff, if_false, List.contains_cons, List.contains_nil, V.ok, V.get, V.fget, V.fhas, Nat.reduceLeDiff, implies_true, Nat.reduceBEq, Int.cast_ofNat_Int]
        intro j hj
        by_cases h1 : 8 * i ≤ j ∧ j < 8 * i + 8
        · rw [if_pos h1, if_pos (by omega), byt_B, fourD, Dg.at_mk' _ _ hj]
          have e1 : j / 8 = i := by omega
          have e2 : j % 8 = j - 8 * i := by omega
          rw [e1, e2]
          exact (Sim_B _ _ _ _ _).mpr rfl
        · rw [if_neg h1]
          by_cases h2 : j < 8 * i
          · rw [if_pos h2, if_pos (by omega)]; rfl
          · rw [if_neg h2, if_neg (by omega)]; rfl
end Mv
