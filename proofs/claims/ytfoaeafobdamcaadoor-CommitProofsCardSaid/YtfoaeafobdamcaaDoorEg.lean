/- The document's Leaves. -/
import Derived.Test.YtfoaeafobdamcaaDoorEe
import Derived.Test.YtfoaeafobdamcaaDoorDk
set_option linter.unusedSimpArgs false
set_option linter.unusedVariables false
namespace Mv
open Go
set_option maxRecDepth 20000
set_option maxHeartbeats 4000000
set_option linter.unusedSimpArgs false

def refLT : LC := (.seq (.reg [⟨(some 5), .lo (.mv (.c .nils)), none⟩])
 ((.seq ((.seq (.reg [⟨(some 6), .lo (.mv (.c (.int .i64 0))), none⟩])
 (.block 2 (.loop ((.seq ((.seq (.reg [⟨(some 20), .lo (.mv (.t 6)), none⟩,
  ⟨(some 21), .lo (.mv (.t 3)), none⟩,
  ⟨(some 22), .lo (.ari .lss (.t 20) (.t 21)), none⟩])
 (.cond (.t 22) (.skip) (.exit 2))))
 ((.seq (.block 3 (.reg [⟨(some 25), .lo (.mv (.t 5)), none⟩,
  ⟨(some 26), .lo (.mv (.t 0)), none⟩,
  ⟨(some 27), .lo (.mv (.t 6)), none⟩,
  ⟨(some 28), .lo (.isl 1 (.t 26) (.t 27)), none⟩,
  ⟨(some 29), .lo (.load false 1 (.t 28)), none⟩,
  ⟨(some 30), .call 66 [(.t 29)], none⟩,
  ⟨(some 31), .lo (.bsl 32 1 (.ar 32 (.int .u8)) [(.i 32 0, 32, (.t 30))]), none⟩,
  ⟨(some 32), .lo (.app 32 32 (.t 25) (.t 31)), none⟩,
  ⟨(some 5), .lo (.mv (.t 32)), none⟩]))
 (.reg [⟨(some 23), .lo (.mv (.t 6)), none⟩,
  ⟨(some 24), .lo (.ari .add (.t 23) (.c (.int .i64 1))), none⟩,
  ⟨(some 6), .lo (.mv (.t 24)), none⟩])))))))))
 ((.seq (.reg [⟨(some 33), .lo (.mv (.t 5)), none⟩,
  ⟨(some 2), .lo (.mv (.t 33)), none⟩])
 (.ret))))))
abbrev RLQ (f : Nat → BitVec 64) : V → Hp → Nat → Prop := fun r H' k' => ∃ n, n ≤ 8192 ∧ (∀ j, n ≤ j → j < 8192 → f j = 0) ∧ ((n = 0 ∧ r = .nils ∧ H' = [] ∧ k' = 0) ∨ (0 < n ∧ r = .sl 0 [] 0 n 32 ∧ H' = [(0, .ar 32 n (fun j => dg (leafD (f j))))] ∧ k' = 1))

theorem refL_tail {M : Seat} {x : Ctx} (ok : OkB M) (hx : x.k = 0) (f : Nat → BitVec 64) (n : Nat) (hn : n ≤ 8192) (hz : ∀ j, n ≤ j → j < 8192 → f j = 0) :
    SemK M x (RetS M x [.tmp 2] (RLQ f)) [.code refLT] 0 (fr 34 [(0, .lst 1 8192 (fun j => W (f j))), (3, .int .i64 n)]) [] := by
  (refine ex_sound 30 _ _ _ _ ?_; simp (maxSteps := 2000000) only [refLT, LQ, ↓step_conv, OpD, epk, epochs, Mv.hx, idsOK, bs, wmask, LK.isW, LK.isA, LK.isP, step, num, X.ev, List.cons_append, List.nil_append, ne_eq, Nat.reduceLT, Int.reduceLE, Int.reduceLT, Int.cast_ofNat_Int, Nat.reducePow, Nat.reduceAnd, Nat.reduceOr, Nat.reduceShiftRight, BEq.rfl, Int.reduceToNat, vpick, vopt, optInt, isInt, vbuild, vbuildOK, vcaps, vcapsOK, elems, elemsOK, List.length_cons, List.length_nil, hget, hset, hdel, hhas, padd, V.ok, V.get, V.set, V.fget, V.fhas, V.fset, noR, Z.v, Z.sz, if_true, if_false, ite_true, ite_false, cond_true, cond_false, reduceCtorEq, forall_const, Nat.reduceAdd, Nat.reduceMul, Nat.reduceSub, Nat.reduceBEq, Nat.reduceEqDiff, dropTo, List.map_cons, List.map_nil, List.filter_cons, List.filter_nil, Nat.reduceLeDiff, Nat.testBit, Nat.reduceBneDiff, bne_self_eq_false, Nat.reduceBNe, ↓reduceIte, eqP_nn, eqV_nn, eqP_in, eqV_in, eqP_pn, eqV_pn, eqP_mn, eqV_mn])
  refine loop_rule (σ := Nat) (fun q => q ≤ n) (fun q => fr 34 [(0, .lst 1 8192 (fun j => W (f j))), (3, .int .i64 n), (5, if q = 0 then .nils else .sl 0 [] 0 q 32), (6, .int .i64 q)])
      (fun q => if q = 0 then [] else [(0, .ar 32 q (fun j => dg (leafD (f j))))]) (fun q => if q = 0 then 0 else 1) (fun q => n - q) 0 (by omega) ?_ ?_
  · simp only [if_true]
    refine Weak.fr [] [] hx (by simp only [fr_length]) (by decide) ?_ ?_
    · simp only [LT, SimL, ne_eq, Nat.reduceLT, SimA, Sim, SimH, frz, hget, hhas, List.getElem?_cons_zero, List.getElem?_cons_succ, List.getElem?_nil, BEq.rfl, if_true, reduceCtorEq, Option.some.injEq, Nat.reduceEqDiff, if_false, List.contains_cons, List.contains_nil, V.ok, V.get, V.fget, V.fhas, Nat.reduceLeDiff, implies_true, Nat.reduceBEq, Int.cast_ofNat_Int]
    · trivial
  · intro q hq
    by_cases hqn : q = n
    · subst hqn
      have d0 : decide ((q : Int) < q) = false := decide_eq_false (by omega)
      by_cases h0 : q = 0
      · subst h0
        (refine ex_sound 30 _ _ _ _ ?_; simp (maxSteps := 2000000) only [d0, if_true, LQ, ↓step_conv, OpD, epk, epochs, Mv.hx, idsOK, bs, wmask, LK.isW, LK.isA, LK.isP, step, num, X.ev, List.cons_append, List.nil_append, ne_eq, Nat.reduceLT, Int.reduceLE, Int.reduceLT, Int.cast_ofNat_Int, Nat.reducePow, Nat.reduceAnd, Nat.reduceOr, Nat.reduceShiftRight, BEq.rfl, Int.reduceToNat, vpick, vopt, optInt, isInt, vbuild, vbuildOK, vcaps, vcapsOK, elems, elemsOK, List.length_cons, List.length_nil, hget, hset, hdel, hhas, padd, V.ok, V.get, V.set, V.fget, V.fhas, V.fset, noR, Z.v, Z.sz, if_true, if_false, ite_true, ite_false, cond_true, cond_false, reduceCtorEq, forall_const, Nat.reduceAdd, Nat.reduceMul, Nat.reduceSub, Nat.reduceBEq, Nat.reduceEqDiff, dropTo, List.map_cons, List.map_nil, List.filter_cons, List.filter_nil, Nat.reduceLeDiff, Nat.testBit, Nat.reduceBneDiff, bne_self_eq_false, Nat.reduceBNe, ↓reduceIte, eqP_nn, eqV_nn, eqP_in, eqV_in, eqP_pn, eqV_pn, eqP_mn, eqV_mn])
        refine RetS.mk hx [] [] .nils [] 0 (by decide) ?_ ?_ trivial ⟨0, hn, hz, .inl ⟨rfl, rfl, rfl, rfl⟩⟩
        · simp only [res, resPs, resP, tupP, resV, LU, ↓step_conv, ex, Ro, RoD, OpD, epk, epochs, Mv.hx, idsOK, bs, wmask, LK.isW, LK.isA, LK.isP, step, num, X.ev, List.cons_append, List.nil_append, ne_eq, Nat.reduceLT, Int.reduceLE, Int.reduceLT, Int.cast_ofNat_Int, Nat.reducePow, Nat.reduceAnd, Nat.reduceOr, Nat.reduceShiftRight, BEq.rfl, Int.reduceToNat, vpick, vopt, optInt, isInt, vbuild, vbuildOK, vcaps, vcapsOK, elems, elemsOK, List.length_cons, List.length_nil, hget, hset, hdel, hhas, padd, V.ok, V.get, V.set, V.fget, V.fhas, V.fset, noR, Z.v, Z.sz, if_true, if_false, ite_true, ite_false, cond_true, cond_false, reduceCtorEq, forall_const, Nat.reduceAdd, Nat.reduceMul, Nat.reduceSub, Nat.reduceBEq, Nat.reduceEqDiff, dropTo, List.map_cons, List.map_nil, List.filter_cons, List.filter_nil]
        · simp only [res, resV, tupV, tup2, tup3, LU, ↓step_conv, ex, Ro, RoD, OpD, epk, epochs, Mv.hx, idsOK, bs, wmask, LK.isW, LK.isA, LK.isP, step, num, X.ev, List.cons_append, List.nil_append, ne_eq, Nat.reduceLT, Int.reduceLE, Int.reduceLT, Int.cast_ofNat_Int, Nat.reducePow, Nat.reduceAnd, Nat.reduceOr, Nat.reduceShiftRight, BEq.rfl, Int.reduceToNat, vpick, vopt, optInt, isInt, vbuild, vbuildOK, vcaps, vcapsOK, elems, elemsOK, List.length_cons, List.length_nil, hget, hset, hdel, hhas, padd, V.ok, V.get, V.set, V.fget, V.fhas, V.fset, noR, Z.v, Z.sz, if_true, if_false, ite_true, ite_false, cond_true, cond_false, reduceCtorEq, forall_const, Nat.reduceAdd, Nat.reduceMul, Nat.reduceSub, Nat.reduceBEq, Nat.reduceEqDiff, dropTo, List.map_cons, List.map_nil, List.filter_cons, List.filter_nil, LT, SimL, ne_eq, Nat.reduceLT, SimA, Sim, SimH, frz, hget, hhas, List.getElem?_cons_zero, List.getElem?_cons_succ, List.getElem?_nil, BEq.rfl, if_true, reduceCtorEq, Option.some.injEq, Nat.reduceEqDiff, if_false, List.contains_cons, List.contains_nil, V.ok, V.get, V.fget, V.fhas, Nat.reduceLeDiff, implies_true, Nat.reduceBEq, Int.cast_ofNat_Int, dg]
      · simp only [if_neg h0]
        (refine ex_sound 30 _ _ _ _ ?_; simp (maxSteps := 2000000) only [d0, LQ, ↓step_conv, OpD, epk, epochs, Mv.hx, idsOK, bs, wmask, LK.isW, LK.isA, LK.isP, step, num, X.ev, List.cons_append, List.nil_append, ne_eq, Nat.reduceLT, Int.reduceLE, Int.reduceLT, Int.cast_ofNat_Int, Nat.reducePow, Nat.reduceAnd, Nat.reduceOr, Nat.reduceShiftRight, BEq.rfl, Int.reduceToNat, vpick, vopt, optInt, isInt, vbuild, vbuildOK, vcaps, vcapsOK, elems, elemsOK, List.length_cons, List.length_nil, hget, hset, hdel, hhas, padd, V.ok, V.get, V.set, V.fget, V.fhas, V.fset, noR, Z.v, Z.sz, if_true, if_false, ite_true, ite_false, cond_true, cond_false, reduceCtorEq, forall_const, Nat.reduceAdd, Nat.reduceMul, Nat.reduceSub, Nat.reduceBEq, Nat.reduceEqDiff, dropTo, List.map_cons, List.map_nil, List.filter_cons, List.filter_nil, Nat.reduceLeDiff, Nat.testBit, Nat.reduceBneDiff, bne_self_eq_false, Nat.reduceBNe, ↓reduceIte, eqP_nn, eqV_nn, eqP_in, eqV_in, eqP_pn, eqV_pn, eqP_mn, eqV_mn])
        refine RetS.mk hx [0] [] (.sl 0 [] 0 q 32) [(0, .ar 32 q (fun j => dg (leafD (f j))))] 1 (by decide) ?_ ?_ ?_ ⟨q, hn, hz, .inr ⟨by omega, rfl, rfl, rfl⟩⟩
        · simp only [res, resPs, resP, tupP, resV, LU, ↓step_conv, ex, Ro, RoD, OpD, epk, epochs, Mv.hx, idsOK, bs, wmask, LK.isW, LK.isA, LK.isP, step, num, X.ev, List.cons_append, List.nil_append, ne_eq, Nat.reduceLT, Int.reduceLE, Int.reduceLT, Int.cast_ofNat_Int, Nat.reducePow, Nat.reduceAnd, Nat.reduceOr, Nat.reduceShiftRight, BEq.rfl, Int.reduceToNat, vpick, vopt, optInt, isInt, vbuild, vbuildOK, vcaps, vcapsOK, elems, elemsOK, List.length_cons, List.length_nil, hget, hset, hdel, hhas, padd, V.ok, V.get, V.set, V.fget, V.fhas, V.fset, noR, Z.v, Z.sz, if_true, if_false, ite_true, ite_false, cond_true, cond_false, reduceCtorEq, forall_const, Nat.reduceAdd, Nat.reduceMul, Nat.reduceSub, Nat.reduceBEq, Nat.reduceEqDiff, dropTo, List.map_cons, List.map_nil, List.filter_cons, List.filter_nil]
        · simp only [res, resV, tupV, tup2, tup3, LU, ↓step_conv, ex, Ro, RoD, OpD, epk, epochs, Mv.hx, idsOK, bs, wmask, LK.isW, LK.isA, LK.isP, step, num, X.ev, List.cons_append, List.nil_append, ne_eq, Nat.reduceLT, Int.reduceLE, Int.reduceLT, Int.cast_ofNat_Int, Nat.reducePow, Nat.reduceAnd, Nat.reduceOr, Nat.reduceShiftRight, BEq.rfl, Int.reduceToNat, vpick, vopt, optInt, isInt, vbuild, vbuildOK, vcaps, vcapsOK, elems, elemsOK, List.length_cons, List.length_nil, hget, hset, hdel, hhas, padd, V.ok, V.get, V.set, V.fget, V.fhas, V.fset, noR, Z.v, Z.sz, if_true, if_false, ite_true, ite_false, cond_true, cond_false, reduceCtorEq, forall_const, Nat.reduceAdd, Nat.reduceMul, Nat.reduceSub, Nat.reduceBEq, Nat.reduceEqDiff, dropTo, List.map_cons, List.map_nil, List.filter_cons, List.filter_nil, LT, SimL, ne_eq, Nat.reduceLT, SimA, Sim, SimH, frz, hget, hhas, List.getElem?_cons_zero, List.getElem?_cons_succ, List.getElem?_nil, BEq.rfl, if_true, reduceCtorEq, Option.some.injEq, Nat.reduceEqDiff, if_false, List.contains_cons, List.contains_nil, V.ok, V.get, V.fget, V.fhas, Nat.reduceLeDiff, implies_true, Nat.reduceBEq, Int.cast_ofNat_Int, dg]
        · simp only [LT, SimL, ne_eq, Nat.reduceLT, SimA, Sim, SimH, frz, hget, hhas, List.getElem?_cons_zero, List.getElem?_cons_succ, List.getElem?_nil, BEq.rfl, if_true, reduceCtorEq, Option.some.injEq, Nat.reduceEqDiff, if_false, List.contains_cons, List.contains_nil, V.ok, V.get, V.fget, V.fhas, Nat.reduceLeDiff, implies_true, Nat.reduceBEq, Int.cast_ofNat_Int]
    · have d0 : decide ((q : Int) < n) = true := decide_eq_true (by omega)
      have w1 : IntKind.i64.wrap ((q : Int) + 1) = ((q + 1 : Nat) : Int) := by rw [wrap_i64 (by omega)]; omega
      have hq1 : (if q + 1 = 0 then V.nils else .sl 0 [] 0 (q + 1) 32) = .sl 0 [] 0 (q + 1) 32 := if_neg (by omega)
      have hq2 : (if q + 1 = 0 then ([] : Hp) else [(0, .ar 32 (q + 1) (fun j => dg (leafD (f j))))]) = [(0, .ar 32 (q + 1) (fun j => dg (leafD (f j))))] := if_neg (by omega)
      have hq3 : (if q + 1 = 0 then 0 else 1) = 1 := if_neg (by omega)
      by_cases h0 : q = 0
      · subst h0
        have d0 : decide ((0 : Int) < n) = true := d0
        have w0 : IntKind.i64.wrap (0 + 1) = ((1 : Nat) : Int) := rfl
        (refine ex_sound 30 _ _ _ _ ?_; simp (maxSteps := 2000000) only [d0, w0, if_true, LQ, ↓step_conv, OpD, epk, epochs, Mv.hx, idsOK, bs, wmask, LK.isW, LK.isA, LK.isP, step, num, X.ev, List.cons_append, List.nil_append, ne_eq, Nat.reduceLT, Int.reduceLE, Int.reduceLT, Int.cast_ofNat_Int, Nat.reducePow, Nat.reduceAnd, Nat.reduceOr, Nat.reduceShiftRight, BEq.rfl, Int.reduceToNat, vpick, vopt, optInt, isInt, vbuild, vbuildOK, vcaps, vcapsOK, elems, elemsOK, List.length_cons, List.length_nil, hget, hset, hdel, hhas, padd, V.ok, V.get, V.set, V.fget, V.fhas, V.fset, noR, Z.v, Z.sz, if_true, if_false, ite_true, ite_false, cond_true, cond_false, reduceCtorEq, forall_const, Nat.reduceAdd, Nat.reduceMul, Nat.reduceSub, Nat.reduceBEq, Nat.reduceEqDiff, dropTo, List.map_cons, List.map_nil, List.filter_cons, List.filter_nil, Nat.reduceLeDiff, Nat.testBit, Nat.reduceBneDiff, bne_self_eq_false, Nat.reduceBNe, ↓reduceIte, eqP_nn, eqV_nn, eqP_in, eqV_in, eqP_pn, eqV_pn, eqP_mn, eqV_mn])
        refine call_pure (runs_refLeaf ok _) ⟨rfl, trivial⟩ rfl ?_
        simp only [LQ, ↓step_conv, OpD, epk, epochs, Mv.hx, idsOK, bs, wmask, LK.isW, LK.isA, LK.isP, step, num, X.ev, List.cons_append, List.nil_append, ne_eq, Nat.reduceLT, Int.reduceLE, Int.reduceLT, Int.cast_ofNat_Int, Nat.reducePow, Nat.reduceAnd, Nat.reduceOr, Nat.reduceShiftRight, BEq.rfl, Int.reduceToNat, vpick, vopt, optInt, isInt, vbuild, vbuildOK, vcaps, vcapsOK, elems, elemsOK, List.length_cons, List.length_nil, hget, hset, hdel, hhas, padd, V.ok, V.get, V.set, V.fget, V.fhas, V.fset, noR, Z.v, Z.sz, if_true, if_false, ite_true, ite_false, cond_true, cond_false, reduceCtorEq, forall_const, Nat.reduceAdd, Nat.reduceMul, Nat.reduceSub, Nat.reduceBEq, Nat.reduceEqDiff, dropTo, List.map_cons, List.map_nil, List.filter_cons, List.filter_nil, Nat.reduceLeDiff, Nat.testBit, Nat.reduceBneDiff, bne_self_eq_false, Nat.reduceBNe, ↓reduceIte, eqP_nn, eqV_nn, eqP_in, eqV_in, eqP_pn, eqV_pn, eqP_mn, eqV_mn]
        refine ⟨1, by omega, by omega, ?_⟩
        rw [if_neg Nat.one_ne_zero, if_neg Nat.one_ne_zero, if_neg Nat.one_ne_zero]
        refine Weak.fr [160] [] hx (by simp only [fr_length]) (by decide) ?_ ?_
        · simp only [LT, SimL, ne_eq, Nat.reduceLT, SimA, Sim, SimH, frz, hget, hhas, List.getElem?_cons_zero, List.getElem?_cons_succ, List.getElem?_nil, BEq.rfl, if_true, reduceCtorEq, Option.some.injEq, Nat.reduceEqDiff, if_false, List.contains_cons, List.contains_nil, V.ok, V.get, V.fget, V.fhas, Nat.reduceLeDiff, implies_true, Nat.reduceBEq, Int.cast_ofNat_Int]
        · simp only [LT, SimL, ne_eq, Nat.reduceLT, SimA, Sim, SimH, frz, hget, hhas, List.getElem?_cons_zero, List.getElem?_cons_succ, List.getElem?_nil, BEq.rfl, if_true, reduceCtorEq, Option.some.injEq, Nat.reduceEqDiff, if_false, List.contains_cons, List.contains_nil, V.ok, V.get, V.fget, V.fhas, Nat.reduceLeDiff, implies_true, Nat.reduceBEq, Int.cast_ofNat_Int]
          intro j hj
          have : j = 0 := by omega
          subst this
          exact (Sim_dg _ _ _ _ _).mpr rfl
      · simp only [if_neg h0]
        (refine ex_sound 30 _ _ _ _ ?_; simp (maxSteps := 2000000) only [d0, w1, LQ, ↓step_conv, OpD, epk, epochs, Mv.hx, idsOK, bs, wmask, LK.isW, LK.isA, LK.isP, step, num, X.ev, List.cons_append, List.nil_append, ne_eq, Nat.reduceLT, Int.reduceLE, Int.reduceLT, Int.cast_ofNat_Int, Nat.reducePow, Nat.reduceAnd, Nat.reduceOr, Nat.reduceShiftRight, BEq.rfl, Int.reduceToNat, vpick, vopt, optInt, isInt, vbuild, vbuildOK, vcaps, vcapsOK, elems, elemsOK, List.length_cons, List.length_nil, hget, hset, hdel, hhas, padd, V.ok, V.get, V.set, V.fget, V.fhas, V.fset, noR, Z.v, Z.sz, if_true, if_false, ite_true, ite_false, cond_true, cond_false, reduceCtorEq, forall_const, Nat.reduceAdd, Nat.reduceMul, Nat.reduceSub, Nat.reduceBEq, Nat.reduceEqDiff, dropTo, List.map_cons, List.map_nil, List.filter_cons, List.filter_nil, Nat.reduceLeDiff, Nat.testBit, Nat.reduceBneDiff, bne_self_eq_false, Nat.reduceBNe, ↓reduceIte, eqP_nn, eqV_nn, eqP_in, eqV_in, eqP_pn, eqV_pn, eqP_mn, eqV_mn])
        refine ⟨⟨by omega, by omega⟩, call_pure (runs_refLeaf ok _) ⟨rfl, trivial⟩ rfl ?_⟩
        simp only [LQ, ↓step_conv, OpD, epk, epochs, Mv.hx, idsOK, bs, wmask, LK.isW, LK.isA, LK.isP, step, num, X.ev, List.cons_append, List.nil_append, ne_eq, Nat.reduceLT, Int.reduceLE, Int.reduceLT, Int.cast_ofNat_Int, Nat.reducePow, Nat.reduceAnd, Nat.reduceOr, Nat.reduceShiftRight, BEq.rfl, Int.reduceToNat, vpick, vopt, optInt, isInt, vbuild, vbuildOK, vcaps, vcapsOK, elems, elemsOK, List.length_cons, List.length_nil, hget, hset, hdel, hhas, padd, V.ok, V.get, V.set, V.fget, V.fhas, V.fset, noR, Z.v, Z.sz, if_true, if_false, ite_true, ite_false, cond_true, cond_false, reduceCtorEq, forall_const, Nat.reduceAdd, Nat.reduceMul, Nat.reduceSub, Nat.reduceBEq, Nat.reduceEqDiff, dropTo, List.map_cons, List.map_nil, List.filter_cons, List.filter_nil, Nat.reduceLeDiff, Nat.testBit, Nat.reduceBneDiff, bne_self_eq_false, Nat.reduceBNe, ↓reduceIte, eqP_nn, eqV_nn, eqP_in, eqV_in, eqP_pn, eqV_pn, eqP_mn, eqV_mn]
        refine ⟨⟨by omega, by omega⟩, q + 1, by omega, by omega, ?_⟩
        rw [hq1, hq2, hq3]
        refine Weak.fr [161] [] hx (by simp only [fr_length]) (by decide) ?_ ?_
        · simp only [LT, SimL, ne_eq, Nat.reduceLT, SimA, Sim, SimH, frz, hget, hhas, List.getElem?_cons_zero, List.getElem?_cons_succ, List.getElem?_nil, BEq.rfl, if_true, reduceCtorEq, Option.some.injEq, Nat.reduceEqDiff, if_false, List.contains_cons, List.contains_nil, V.ok, V.get, V.fget, V.fhas, Nat.reduceLeDiff, implies_true, Nat.reduceBEq, Int.cast_ofNat_Int]
        · simp only [LT, SimL, ne_eq, Nat.reduceLT, SimA, Sim, SimH, frz, hget, hhas, List.getElem?_cons_zero, List.getElem?_cons_succ, List.getElem?_nil, BEq.rfl, if_true, reduceCtorEq, Option.some.injEq, Nat.reduceEqDiff, if_false, List.contains_cons, List.contains_nil, V.ok, V.get, V.fget, V.fhas, Nat.reduceLeDiff, implies_true, Nat.reduceBEq, Int.cast_ofNat_Int]
          intro j hj
          by_cases h1 : j < q
          · rw [if_pos h1]; exact (Sim_dg _ _ _ _ _).mpr rfl
          · have : j = q := by omega
            subst this
            rw [if_neg h1, if_pos (by omega)]
            exact (Sim_dg _ _ _ _ _).mpr rfl

theorem runs_refLeaves {M : Seat} (ok : OkB M) (f : Nat → BitVec 64) :
    Runs M 57 [.lst 1 8192 (fun j => W (f j))] [] 0 (RLQ f) := by
  refine runs_fr ok.k57 rfl fun x hx => ?_
  refine ex_sound 30 _ _ _ _ ?_
  simp only [f57, c57, LQ, ↓step_conv, OpD, epk, epochs, Mv.hx, idsOK, bs, wmask, LK.isW, LK.isA, LK.isP, step, num, X.ev, List.cons_append, List.nil_append, ne_eq, Nat.reduceLT, Int.reduceLE, Int.reduceLT, Int.cast_ofNat_Int, Nat.reducePow, Nat.reduceAnd, Nat.reduceOr, Nat.reduceShiftRight, BEq.rfl, Int.reduceToNat, vpick, vopt, optInt, isInt, vbuild, vbuildOK, vcaps, vcapsOK, elems, elemsOK, List.length_cons, List.length_nil, hget, hset, hdel, hhas, padd, V.ok, V.get, V.set, V.fget, V.fhas, V.fset, noR, Z.v, Z.sz, if_true, if_false, ite_true, ite_false, cond_true, cond_false, reduceCtorEq, forall_const, Nat.reduceAdd, Nat.reduceMul, Nat.reduceSub, Nat.reduceBEq, Nat.reduceEqDiff, dropTo, List.map_cons, List.map_nil, List.filter_cons, List.filter_nil, Nat.reduceLeDiff, Nat.testBit, Nat.reduceBneDiff, bne_self_eq_false, Nat.reduceBNe, ↓reduceIte, eqP_nn, eqV_nn, eqP_in, eqV_in, eqP_pn, eqV_pn, eqP_mn, eqV_mn]
  refine loop_rule (σ := Nat × Nat) (fun s => s.1 ≤ s.2 ∧ s.2 ≤ 8192 ∧ ∀ j, s.1 ≤ j → j < s.2 → f j = 0) (fun s => fr 34 [(0, .lst 1 8192 (fun j => W (f j))), (3, .int .i64 s.1), (4, .int .i64 s.2)])
      (fun _ => []) (fun _ => 0) (fun s => 8192 - s.2) (0, 0) ⟨by omega, by omega, fun j _ h => by simp at h⟩ ?_ ?_
  · refine Weak.fr [] [] hx (by simp only [fr_length]) (by decide) ?_ ?_
    · simp only [LT, SimL, ne_eq, Nat.reduceLT, SimA, Sim, SimH, frz, hget, hhas, List.getElem?_cons_zero, List.getElem?_cons_succ, List.getElem?_nil, BEq.rfl, if_true, reduceCtorEq, Option.some.injEq, Nat.reduceEqDiff, if_false, List.contains_cons, List.contains_nil, V.ok, V.get, V.fget, V.fhas, Nat.reduceLeDiff, implies_true, Nat.reduceBEq, Int.cast_ofNat_Int]
    · trivial
  · rintro ⟨n, i⟩ ⟨hn, hi, hz⟩
    simp only at hn hi hz ⊢
    by_cases h8 : i = 8192
    · subst h8
      have tail := refL_tail ok hx f n hn hz
      have d0 : decide (((8192 : Nat) : Int) < 8192) = false := rfl
      (refine ex_sound 5 _ _ _ _ ?_; simp (maxSteps := 2000000) only [d0, LQ, ↓step_conv, OpD, epk, epochs, Mv.hx, idsOK, bs, wmask, LK.isW, LK.isA, LK.isP, step, num, X.ev, List.cons_append, List.nil_append, ne_eq, Nat.reduceLT, Int.reduceLE, Int.reduceLT, Int.cast_ofNat_Int, Nat.reducePow, Nat.reduceAnd, Nat.reduceOr, Nat.reduceShiftRight, BEq.rfl, Int.reduceToNat, vpick, vopt, optInt, isInt, vbuild, vbuildOK, vcaps, vcapsOK, elems, elemsOK, List.length_cons, List.length_nil, hget, hset, hdel, hhas, padd, V.ok, V.get, V.set, V.fget, V.fhas, V.fset, noR, Z.v, Z.sz, if_true, if_false, ite_true, ite_false, cond_true, cond_false, reduceCtorEq, forall_const, Nat.reduceAdd, Nat.reduceMul, Nat.reduceSub, Nat.reduceBEq, Nat.reduceEqDiff, dropTo, List.map_cons, List.map_nil, List.filter_cons, List.filter_nil, Nat.reduceLeDiff, Nat.testBit, Nat.reduceBneDiff, bne_self_eq_false, Nat.reduceBNe, ↓reduceIte, eqP_nn, eqV_nn, eqP_in, eqV_in, eqP_pn, eqV_pn, eqP_mn, eqV_mn])
      refine SemK.weak _ _ _ ?_ tail
      refine Weak.fr [] [] hx (by simp only [fr_length]) (by decide) ?_ ?_
      · simp only [LT, SimL, ne_eq, Nat.reduceLT, SimA, Sim, SimH, frz, hget, hhas, List.getElem?_cons_zero, List.getElem?_cons_succ, List.getElem?_nil, BEq.rfl, if_true, reduceCtorEq, Option.some.injEq, Nat.reduceEqDiff, if_false, List.contains_cons, List.contains_nil, V.ok, V.get, V.fget, V.fhas, Nat.reduceLeDiff, implies_true, Nat.reduceBEq, Int.cast_ofNat_Int]
      · trivial
    · have d0 : decide ((i : Int) < 8192) = true := decide_eq_true (by omega)
      have w1 : IntKind.i64.wrap ((i : Int) + 1) = ((i + 1 : Nat) : Int) := by rw [wrap_i64 (by omega)]; omega
      by_cases hf : f i = 0
      · have nv : vari .neq (W (f i)) (V.int .u64 0) [] = ⟨True, .bool false, []⟩ := by rw [hf, W, v_neq]; rfl
        (refine ex_sound 30 _ _ _ _ ?_; simp (maxSteps := 2000000) only [d0, w1, nv, LQ, ↓step_conv, OpD, epk, epochs, Mv.hx, idsOK, bs, wmask, LK.isW, LK.isA, LK.isP, step, num, X.ev, List.cons_append, List.nil_append, ne_eq, Nat.reduceLT, Int.reduceLE, Int.reduceLT, Int.cast_ofNat_Int, Nat.reducePow, Nat.reduceAnd, Nat.reduceOr, Nat.reduceShiftRight, BEq.rfl, Int.reduceToNat, vpick, vopt, optInt, isInt, vbuild, vbuildOK, vcaps, vcapsOK, elems, elemsOK, List.length_cons, List.length_nil, hget, hset, hdel, hhas, padd, V.ok, V.get, V.set, V.fget, V.fhas, V.fset, noR, Z.v, Z.sz, if_true, if_false, ite_true, ite_false, cond_true, cond_false, reduceCtorEq, forall_const, Nat.reduceAdd, Nat.reduceMul, Nat.reduceSub, Nat.reduceBEq, Nat.reduceEqDiff, dropTo, List.map_cons, List.map_nil, List.filter_cons, List.filter_nil, Nat.reduceLeDiff, Nat.testBit, Nat.reduceBneDiff, bne_self_eq_false, Nat.reduceBNe, ↓reduceIte, eqP_nn, eqV_nn, eqP_in, eqV_in, eqP_pn, eqV_pn, eqP_mn, eqV_mn])
        refine ⟨⟨by omega, by omega⟩, (n, i + 1), ⟨by omega, by omega, fun j h1 h2 => ?_⟩, by omega, ?_⟩
        · by_cases h3 : j = i
          · rw [h3, hf]
          · exact hz j h1 (by omega)
        · refine Weak.fr [] [] hx (by simp only [fr_length]) (by decide) ?_ ?_
          · simp only [LT, SimL, ne_eq, Nat.reduceLT, SimA, Sim, SimH, frz, hget, hhas, List.getElem?_cons_zero, List.getElem?_cons_succ, List.getElem?_nil, BEq.rfl, if_true, reduceCtorEq, Option.some.injEq, Nat.reduceEqDiff, if_false, List.contains_cons, List.contains_nil, V.ok, V.get, V.fget, V.fhas, Nat.reduceLeDiff, implies_true, Nat.reduceBEq, Int.cast_ofNat_Int]
          · trivial
      · have nv : vari .neq (W (f i)) (V.int .u64 0) [] = ⟨True, .bool true, []⟩ := by
          have h1 : ((f i).toNat : Int) ≠ 0 := fun h => hf (BitVec.eq_of_toNat_eq (by simpa using h))
          rw [W, v_neq, decide_eq_false h1]; rfl
        (refine ex_sound 30 _ _ _ _ ?_; simp (maxSteps := 2000000) only [d0, w1, nv, LQ, ↓step_conv, OpD, epk, epochs, Mv.hx, idsOK, bs, wmask, LK.isW, LK.isA, LK.isP, step, num, X.ev, List.cons_append, List.nil_append, ne_eq, Nat.reduceLT, Int.reduceLE, Int.reduceLT, Int.cast_ofNat_Int, Nat.reducePow, Nat.reduceAnd, Nat.reduceOr, Nat.reduceShiftRight, BEq.rfl, Int.reduceToNat, vpick, vopt, optInt, isInt, vbuild, vbuildOK, vcaps, vcapsOK, elems, elemsOK, List.length_cons, List.length_nil, hget, hset, hdel, hhas, padd, V.ok, V.get, V.set, V.fget, V.fhas, V.fset, noR, Z.v, Z.sz, if_true, if_false, ite_true, ite_false, cond_true, cond_false, reduceCtorEq, forall_const, Nat.reduceAdd, Nat.reduceMul, Nat.reduceSub, Nat.reduceBEq, Nat.reduceEqDiff, dropTo, List.map_cons, List.map_nil, List.filter_cons, List.filter_nil, Nat.reduceLeDiff, Nat.testBit, Nat.reduceBneDiff, bne_self_eq_false, Nat.reduceBNe, ↓reduceIte, eqP_nn, eqV_nn, eqP_in, eqV_in, eqP_pn, eqV_pn, eqP_mn, eqV_mn])
        refine ⟨⟨by omega, by omega⟩, (i + 1, i + 1), ⟨by omega, by omega, fun j h1 h2 => by omega⟩, by omega, ?_⟩
        refine Weak.fr [] [] hx (by simp only [fr_length]) (by decide) ?_ ?_
        · simp only [LT, SimL, ne_eq, Nat.reduceLT, SimA, Sim, SimH, frz, hget, hhas, List.getElem?_cons_zero, List.getElem?_cons_succ, List.getElem?_nil, BEq.rfl, if_true, reduceCtorEq, Option.some.injEq, Nat.reduceEqDiff, if_false, List.contains_cons, List.contains_nil, V.ok, V.get, V.fget, V.fhas, Nat.reduceLeDiff, implies_true, Nat.reduceBEq, Int.cast_ofNat_Int]
        · trivial
end Mv
