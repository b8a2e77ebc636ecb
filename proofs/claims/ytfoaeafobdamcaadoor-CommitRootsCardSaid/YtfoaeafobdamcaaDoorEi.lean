/- The document's Of; CommitRoots. -/
import Derived.Test.YtfoaeafobdamcaaDoorEg
import Derived.Test.YtfoaeafobdamcaaDoorDo
set_option linter.unusedSimpArgs false
set_option linter.unusedVariables false
namespace Mv
open Go
set_option maxRecDepth 20000
set_option maxHeartbeats 4000000
set_option linter.unusedSimpArgs false

theorem call_fresh {M : Seat} {f : Nat} {us us0 : List V} {H : Hp} {n : Nat} {K : V → Hp → Prop} {v a : V} (hr : Runs M f us0 [] 0 (fun r H' k' => r = v ∧ H' = [(0, a)] ∧ k' = 1)) (hus : SimA H [] [] us0 us) (hK : K (v.ren [n]) ((n, a.ren [n]) :: H)) : CallK M f us H n K := by
  refine call_runs hr False [] [] List.nodup_nil (by simp) rfl (by simp) hus trivial ?_
  rintro v' H' k' ⟨rfl, rfl, rfl⟩
  refine ⟨⟨by omega, fun h => h.elim⟩, ?_⟩
  simpa [renH, hrest, nums1] using hK

theorem Sim_refI (H : Hp) (m z : List Nat) (f g : Nat → BitVec 64) (pc : BitVec 64) (hl : Bool) (xt : BitVec 64) : Sim H m z (refI f g pc hl xt) (refI f g pc hl xt) := by
  simp only [refI, LT, SimL, ne_eq, Nat.reduceLT, SimA, Sim, SimH, frz, hget, hhas, List.getElem?_cons_zero, List.getElem?_cons_succ, List.getElem?_nil, BEq.rfl, if_true, reduceCtorEq, Option.some.injEq, Nat.reduceEqDiff, if_false, List.contains_cons, List.contains_nil, V.ok, V.get, V.fget, V.fhas, Nat.reduceLeDiff, implies_true, Nat.reduceBEq, Int.cast_ofNat_Int]

def refOfT : LC := (.seq (.regd [⟨1, 0, ⟨(some 15), .lo (.mv (.t 0)), none⟩⟩,
  ⟨2, 1, ⟨(some 16), .call 61 [(.t 15)], none⟩⟩,
  ⟨3, 3, ⟨(some 17), .call 60 [(.t 16)], none⟩⟩,
  ⟨0, 0, ⟨(some 14), .lo (.load true 32 (.t 3)), none⟩⟩,
  ⟨4, 15, ⟨(some 18), .call 206 [(.t 14), (.t 17)], none⟩⟩,
  ⟨5, 31, ⟨none, .lo (.store 32 (.t 2) (.t 18)), none⟩⟩])
 (.ret))
theorem refOf_tail {M : Seat} {x : Ctx} (ok : OkB M) (hx : x.k = 0) (f g : Nat → BitVec 64) (pc : BitVec 64) (hl : Bool) (xt : BitVec 64) :
    SemK M x (RetS M x [.cell 2 true 32] (fun r H' k' => r = dg (comD f g pc hl xt) ∧ H' = [] ∧ k' = 0)) [.code refOfT] 2 (fr 19 [(0, .imm (refI f g pc hl xt)), (2, .ptr 0 []), (3, .ptr 1 [])])
      [(0, .ar 1 32 (fun _ => B 0)), (1, dg (memN f 13 0))] := by
  (refine ex_sound 30 _ _ _ _ ?_; simp (maxSteps := 2000000) only [refOfT, LQ, ↓step_conv, OpD, epk, epochs, Mv.hx, idsOK, bs, wmask, LK.isW, LK.isA, LK.isP, step, num, X.ev, List.cons_append, List.nil_append, ne_eq, Nat.reduceLT, Int.reduceLE, Int.reduceLT, Int.cast_ofNat_Int, Nat.reducePow, Nat.reduceAnd, Nat.reduceOr, Nat.reduceShiftRight, BEq.rfl, Int.reduceToNat, vpick, vopt, optInt, isInt, vbuild, vbuildOK, vcaps, vcapsOK, elems, elemsOK, List.length_cons, List.length_nil, hget, hset, hdel, hhas, padd, V.ok, V.get, V.set, V.fget, V.fhas, V.fset, noR, Z.v, Z.sz, if_true, if_false, ite_true, ite_false, cond_true, cond_false, reduceCtorEq, forall_const, Nat.reduceAdd, Nat.reduceMul, Nat.reduceSub, Nat.reduceBEq, Nat.reduceEqDiff, dropTo, List.map_cons, List.map_nil, List.filter_cons, List.filter_nil, Nat.reduceLeDiff, Nat.testBit, Nat.reduceBneDiff, bne_self_eq_false, Nat.reduceBNe, ↓reduceIte, eqP_nn, eqV_nn, eqP_in, eqV_in, eqP_pn, eqV_pn, eqP_mn, eqV_mn])
  refine ⟨_, _, call_fresh (runs_refHead ok f g pc hl xt) ⟨by simp only [SimV_imm, refI, LT, SimL, ne_eq, Nat.reduceLT, SimA, Sim, SimH, frz, hget, hhas, List.getElem?_cons_zero, List.getElem?_cons_succ, List.getElem?_nil, BEq.rfl, if_true, reduceCtorEq, Option.some.injEq, Nat.reduceEqDiff, if_false, List.contains_cons, List.contains_nil, V.ok, V.get, V.fget, V.fhas, Nat.reduceLeDiff, implies_true, Nat.reduceBEq, Int.cast_ofNat_Int], trivial⟩ ⟨rfl, rfl⟩, ?_⟩
  simp only [hdR, LQ, ↓step_conv, OpD, epk, epochs, Mv.hx, idsOK, bs, wmask, LK.isW, LK.isA, LK.isP, step, num, X.ev, List.cons_append, List.nil_append, ne_eq, Nat.reduceLT, Int.reduceLE, Int.reduceLT, Int.cast_ofNat_Int, Nat.reducePow, Nat.reduceAnd, Nat.reduceOr, Nat.reduceShiftRight, BEq.rfl, Int.reduceToNat, vpick, vopt, optInt, isInt, vbuild, vbuildOK, vcaps, vcapsOK, elems, elemsOK, List.length_cons, List.length_nil, hget, hset, hdel, hhas, padd, V.ok, V.get, V.set, V.fget, V.fhas, V.fset, noR, Z.v, Z.sz, if_true, if_false, ite_true, ite_false, cond_true, cond_false, reduceCtorEq, forall_const, Nat.reduceAdd, Nat.reduceMul, Nat.reduceSub, Nat.reduceBEq, Nat.reduceEqDiff, dropTo, List.map_cons, List.map_nil, List.filter_cons, List.filter_nil, Nat.reduceLeDiff, Nat.testBit, Nat.reduceBneDiff, bne_self_eq_false, Nat.reduceBNe, ↓reduceIte, eqP_nn, eqV_nn, eqP_in, eqV_in, eqP_pn, eqV_pn, eqP_mn, eqV_mn, LN, V.ren, renH, hrest, hdel, ren_lvV, List.getElem?_cons_zero, List.getElem?_cons_succ, List.append_nil, List.nil_append, List.cons_append, ne_eq, if_false, if_true, Nat.reduceEqDiff, reduceCtorEq]
  refine ⟨_, _, call_pureZ [114] (runs_refDigest ok g pc hl xt) (by simp only [hdR, LT, SimL, ne_eq, Nat.reduceLT, SimA, Sim, SimH, frz, hget, hhas, List.getElem?_cons_zero, List.getElem?_cons_succ, List.getElem?_nil, BEq.rfl, if_true, reduceCtorEq, Option.some.injEq, Nat.reduceEqDiff, if_false, List.contains_cons, List.contains_nil, V.ok, V.get, V.fget, V.fhas, Nat.reduceLeDiff, implies_true, Nat.reduceBEq, Int.cast_ofNat_Int]) rfl ⟨rfl, rfl⟩, ?_⟩
  simp only [LQ, ↓step_conv, OpD, epk, epochs, Mv.hx, idsOK, bs, wmask, LK.isW, LK.isA, LK.isP, step, num, X.ev, List.cons_append, List.nil_append, ne_eq, Nat.reduceLT, Int.reduceLE, Int.reduceLT, Int.cast_ofNat_Int, Nat.reducePow, Nat.reduceAnd, Nat.reduceOr, Nat.reduceShiftRight, BEq.rfl, Int.reduceToNat, vpick, vopt, optInt, isInt, vbuild, vbuildOK, vcaps, vcapsOK, elems, elemsOK, List.length_cons, List.length_nil, hget, hset, hdel, hhas, padd, V.ok, V.get, V.set, V.fget, V.fhas, V.fset, noR, Z.v, Z.sz, if_true, if_false, ite_true, ite_false, cond_true, cond_false, reduceCtorEq, forall_const, Nat.reduceAdd, Nat.reduceMul, Nat.reduceSub, Nat.reduceBEq, Nat.reduceEqDiff, dropTo, List.map_cons, List.map_nil, List.filter_cons, List.filter_nil, Nat.reduceLeDiff, Nat.testBit, Nat.reduceBneDiff, bne_self_eq_false, Nat.reduceBNe, ↓reduceIte, eqP_nn, eqV_nn, eqP_in, eqV_in, eqP_pn, eqV_pn, eqP_mn, eqV_mn, LN, V.ren, renH, hrest, hdel, ren_lvV, List.getElem?_cons_zero, List.getElem?_cons_succ, List.append_nil, List.nil_append, List.cons_append, ne_eq, if_false, if_true, Nat.reduceEqDiff, reduceCtorEq]
  refine ⟨_, _, call_pure (runs_refPair ok _ _) ⟨(Sim_dg _ _ _ _ _).mpr rfl, (Sim_dg _ _ _ _ _).mpr rfl, trivial⟩ rfl ⟨rfl, rfl⟩, ?_⟩
  simp only [LQ, ↓step_conv, OpD, epk, epochs, Mv.hx, idsOK, bs, wmask, LK.isW, LK.isA, LK.isP, step, num, X.ev, List.cons_append, List.nil_append, ne_eq, Nat.reduceLT, Int.reduceLE, Int.reduceLT, Int.cast_ofNat_Int, Nat.reducePow, Nat.reduceAnd, Nat.reduceOr, Nat.reduceShiftRight, BEq.rfl, Int.reduceToNat, vpick, vopt, optInt, isInt, vbuild, vbuildOK, vcaps, vcapsOK, elems, elemsOK, List.length_cons, List.length_nil, hget, hset, hdel, hhas, padd, V.ok, V.get, V.set, V.fget, V.fhas, V.fset, noR, Z.v, Z.sz, if_true, if_false, ite_true, ite_false, cond_true, cond_false, reduceCtorEq, forall_const, Nat.reduceAdd, Nat.reduceMul, Nat.reduceSub, Nat.reduceBEq, Nat.reduceEqDiff, dropTo, List.map_cons, List.map_nil, List.filter_cons, List.filter_nil, Nat.reduceLeDiff, Nat.testBit, Nat.reduceBneDiff, bne_self_eq_false, Nat.reduceBNe, ↓reduceIte, eqP_nn, eqV_nn, eqP_in, eqV_in, eqP_pn, eqV_pn, eqP_mn, eqV_mn]
  refine RetS.mk hx [] [] (dg (comD f g pc hl xt)) [] 0 (by decide) ?_ ?_ trivial ⟨rfl, rfl, rfl⟩
  · simp only [res, resPs, resP, tupP, resV, LU, ↓step_conv, ex, Ro, RoD, OpD, epk, epochs, Mv.hx, idsOK, bs, wmask, LK.isW, LK.isA, LK.isP, step, num, X.ev, List.cons_append, List.nil_append, ne_eq, Nat.reduceLT, Int.reduceLE, Int.reduceLT, Int.cast_ofNat_Int, Nat.reducePow, Nat.reduceAnd, Nat.reduceOr, Nat.reduceShiftRight, BEq.rfl, Int.reduceToNat, vpick, vopt, optInt, isInt, vbuild, vbuildOK, vcaps, vcapsOK, elems, elemsOK, List.length_cons, List.length_nil, hget, hset, hdel, hhas, padd, V.ok, V.get, V.set, V.fget, V.fhas, V.fset, noR, Z.v, Z.sz, if_true, if_false, ite_true, ite_false, cond_true, cond_false, reduceCtorEq, forall_const, Nat.reduceAdd, Nat.reduceMul, Nat.reduceSub, Nat.reduceBEq, Nat.reduceEqDiff, dropTo, List.map_cons, List.map_nil, List.filter_cons, List.filter_nil]
  · simp only [res, resV, tupV, tup2, tup3, LU, ↓step_conv, ex, Ro, RoD, OpD, epk, epochs, Mv.hx, idsOK, bs, wmask, LK.isW, LK.isA, LK.isP, step, num, X.ev, List.cons_append, List.nil_append, ne_eq, Nat.reduceLT, Int.reduceLE, Int.reduceLT, Int.cast_ofNat_Int, Nat.reducePow, Nat.reduceAnd, Nat.reduceOr, Nat.reduceShiftRight, BEq.rfl, Int.reduceToNat, vpick, vopt, optInt, isInt, vbuild, vbuildOK, vcaps, vcapsOK, elems, elemsOK, List.length_cons, List.length_nil, hget, hset, hdel, hhas, padd, V.ok, V.get, V.set, V.fget, V.fhas, V.fset, noR, Z.v, Z.sz, if_true, if_false, ite_true, ite_false, cond_true, cond_false, reduceCtorEq, forall_const, Nat.reduceAdd, Nat.reduceMul, Nat.reduceSub, Nat.reduceBEq, Nat.reduceEqDiff, dropTo, List.map_cons, List.map_nil, List.filter_cons, List.filter_nil, LT, SimL, ne_eq, Nat.reduceLT, SimA, Sim, SimH, frz, hget, hhas, List.getElem?_cons_zero, List.getElem?_cons_succ, List.getElem?_nil, BEq.rfl, if_true, reduceCtorEq, Option.some.injEq, Nat.reduceEqDiff, if_false, List.contains_cons, List.contains_nil, V.ok, V.get, V.fget, V.fhas, Nat.reduceLeDiff, implies_true, Nat.reduceBEq, Int.cast_ofNat_Int, dg]
    exact fun _ _ => rfl

theorem runs_refOf {M : Seat} (ok : OkB M) (f g : Nat → BitVec 64) (pc : BitVec 64) (hl : Bool) (xt : BitVec 64) :
    Runs M 58 [.imm (refI f g pc hl xt)] [] 0 (fun r H' k' => r = dg (comD f g pc hl xt) ∧ H' = [] ∧ k' = 0) := by
  refine runs_fr ok.k58 rfl fun x hx => ?_
  refine ex_sound 4 _ _ _ _ ?_
  simp only [f58, c58, refI, LQ, ↓step_conv, OpD, epk, epochs, Mv.hx, idsOK, bs, wmask, LK.isW, LK.isA, LK.isP, step, num, X.ev, List.cons_append, List.nil_append, ne_eq, Nat.reduceLT, Int.reduceLE, Int.reduceLT, Int.cast_ofNat_Int, Nat.reducePow, Nat.reduceAnd, Nat.reduceOr, Nat.reduceShiftRight, BEq.rfl, Int.reduceToNat, vpick, vopt, optInt, isInt, vbuild, vbuildOK, vcaps, vcapsOK, elems, elemsOK, List.length_cons, List.length_nil, hget, hset, hdel, hhas, padd, V.ok, V.get, V.set, V.fget, V.fhas, V.fset, noR, Z.v, Z.sz, if_true, if_false, ite_true, ite_false, cond_true, cond_false, reduceCtorEq, forall_const, Nat.reduceAdd, Nat.reduceMul, Nat.reduceSub, Nat.reduceBEq, Nat.reduceEqDiff, dropTo, List.map_cons, List.map_nil, List.filter_cons, List.filter_nil, Nat.reduceLeDiff, Nat.testBit, Nat.reduceBneDiff, bne_self_eq_false, Nat.reduceBNe, ↓reduceIte, eqP_nn, eqV_nn, eqP_in, eqV_in, eqP_pn, eqV_pn, eqP_mn, eqV_mn]
  refine call_runs (runs_refLeaves ok f) False [] [] List.nodup_nil (by simp) rfl (by simp) (by simp only [LT, SimL, ne_eq, Nat.reduceLT, SimA, Sim, SimH, frz, hget, hhas, List.getElem?_cons_zero, List.getElem?_cons_succ, List.getElem?_nil, BEq.rfl, if_true, reduceCtorEq, Option.some.injEq, Nat.reduceEqDiff, if_false, List.contains_cons, List.contains_nil, V.ok, V.get, V.fget, V.fhas, Nat.reduceLeDiff, implies_true, Nat.reduceBEq, Int.cast_ofNat_Int]) trivial ?_
  rintro v H' k' ⟨n, hn, hz, h⟩
  have hmem : node (lvs f n) 13 0 = memN f 13 0 := node_mem f n hn hz 13 0
  have tail := refOf_tail ok hx f g pc hl xt
  rcases h with ⟨hn0, rfl, rfl, rfl⟩ | ⟨hn0, rfl, rfl, rfl⟩
  · refine ⟨⟨by omega, fun h => h.elim⟩, ?_⟩
    simp only [nums0, LN, V.ren, renH, hrest, hdel, ren_lvV, List.getElem?_cons_zero, List.getElem?_cons_succ, List.append_nil, List.nil_append, List.cons_append, ne_eq, if_false, if_true, Nat.reduceEqDiff, reduceCtorEq]
    refine call_pure (runs_refRoot ok 13 (by omega) (lvs f n) .nils (.inr ⟨rfl, by rw [hn0]; rfl⟩) (by rw [lvs_len]; omega)) (by simp only [LT, SimL, ne_eq, Nat.reduceLT, SimA, Sim, SimH, frz, hget, hhas, List.getElem?_cons_zero, List.getElem?_cons_succ, List.getElem?_nil, BEq.rfl, if_true, reduceCtorEq, Option.some.injEq, Nat.reduceEqDiff, if_false, List.contains_cons, List.contains_nil, V.ok, V.get, V.fget, V.fhas, Nat.reduceLeDiff, implies_true, Nat.reduceBEq, Int.cast_ofNat_Int]) rfl ?_
    simp only [hmem, tup2, LQ, ↓step_conv, OpD, epk, epochs, Mv.hx, idsOK, bs, wmask, LK.isW, LK.isA, LK.isP, step, num, X.ev, List.cons_append, List.nil_append, ne_eq, Nat.reduceLT, Int.reduceLE, Int.reduceLT, Int.cast_ofNat_Int, Nat.reducePow, Nat.reduceAnd, Nat.reduceOr, Nat.reduceShiftRight, BEq.rfl, Int.reduceToNat, vpick, vopt, optInt, isInt, vbuild, vbuildOK, vcaps, vcapsOK, elems, elemsOK, List.length_cons, List.length_nil, hget, hset, hdel, hhas, padd, V.ok, V.get, V.set, V.fget, V.fhas, V.fset, noR, Z.v, Z.sz, if_true, if_false, ite_true, ite_false, cond_true, cond_false, reduceCtorEq, forall_const, Nat.reduceAdd, Nat.reduceMul, Nat.reduceSub, Nat.reduceBEq, Nat.reduceEqDiff, dropTo, List.map_cons, List.map_nil, List.filter_cons, List.filter_nil, Nat.reduceLeDiff, Nat.testBit, Nat.reduceBneDiff, bne_self_eq_false, Nat.reduceBNe, ↓reduceIte, eqP_nn, eqV_nn, eqP_in, eqV_in, eqP_pn, eqV_pn, eqP_mn, eqV_mn]
    refine SemK.weak _ _ _ ?_ tail
    refine Weak.fr [0, 160] [] hx (by simp only [fr_length]) (by decide) ?_ ?_
    · simp only [refI, LT, SimL, ne_eq, Nat.reduceLT, SimA, Sim, SimH, frz, hget, hhas, List.getElem?_cons_zero, List.getElem?_cons_succ, List.getElem?_nil, BEq.rfl, if_true, reduceCtorEq, Option.some.injEq, Nat.reduceEqDiff, if_false, List.contains_cons, List.contains_nil, V.ok, V.get, V.fget, V.fhas, Nat.reduceLeDiff, implies_true, Nat.reduceBEq, Int.cast_ofNat_Int]
    · simp only [LT, SimL, ne_eq, Nat.reduceLT, SimA, Sim, SimH, frz, hget, hhas, List.getElem?_cons_zero, List.getElem?_cons_succ, List.getElem?_nil, BEq.rfl, if_true, reduceCtorEq, Option.some.injEq, Nat.reduceEqDiff, if_false, List.contains_cons, List.contains_nil, V.ok, V.get, V.fget, V.fhas, Nat.reduceLeDiff, implies_true, Nat.reduceBEq, Int.cast_ofNat_Int, B_0]
  · refine ⟨⟨by omega, fun h => h.elim⟩, ?_⟩
    simp only [nums1, LN, V.ren, renH, hrest, hdel, ren_lvV, List.getElem?_cons_zero, List.getElem?_cons_succ, List.append_nil, List.nil_append, List.cons_append, ne_eq, if_false, if_true, Nat.reduceEqDiff, reduceCtorEq]
    refine call_pureZ [80] (runs_refRoot ok 13 (by omega) (lvs f n) (row (lvs f n)) (.inl rfl) (by rw [lvs_len]; omega)) ⟨rfl, ?_, trivial⟩ rfl ?_
    · simp only [row, lvs_len, LT, SimL, ne_eq, Nat.reduceLT, SimA, Sim, SimH, frz, hget, hhas, List.getElem?_cons_zero, List.getElem?_cons_succ, List.getElem?_nil, BEq.rfl, if_true, reduceCtorEq, Option.some.injEq, Nat.reduceEqDiff, if_false, List.contains_cons, List.contains_nil, V.ok, V.get, V.fget, V.fhas, Nat.reduceLeDiff, implies_true, Nat.reduceBEq, Int.cast_ofNat_Int]
      intro j hj
      exact (lvs_at _ _ _ hj _).symm
    simp only [hrest, hmem, tup2, LQ, ↓step_conv, OpD, epk, epochs, Mv.hx, idsOK, bs, wmask, LK.isW, LK.isA, LK.isP, step, num, X.ev, List.cons_append, List.nil_append, ne_eq, Nat.reduceLT, Int.reduceLE, Int.reduceLT, Int.cast_ofNat_Int, Nat.reducePow, Nat.reduceAnd, Nat.reduceOr, Nat.reduceShiftRight, BEq.rfl, Int.reduceToNat, vpick, vopt, optInt, isInt, vbuild, vbuildOK, vcaps, vcapsOK, elems, elemsOK, List.length_cons, List.length_nil, hget, hset, hdel, hhas, padd, V.ok, V.get, V.set, V.fget, V.fhas, V.fset, noR, Z.v, Z.sz, if_true, if_false, ite_true, ite_false, cond_true, cond_false, reduceCtorEq, forall_const, Nat.reduceAdd, Nat.reduceMul, Nat.reduceSub, Nat.reduceBEq, Nat.reduceEqDiff, dropTo, List.map_cons, List.map_nil, List.filter_cons, List.filter_nil, Nat.reduceLeDiff, Nat.testBit, Nat.reduceBneDiff, bne_self_eq_false, Nat.reduceBNe, ↓reduceIte, eqP_nn, eqV_nn, eqP_in, eqV_in, eqP_pn, eqV_pn, eqP_mn, eqV_mn, LN, V.ren, renH, hrest, hdel, ren_lvV, List.getElem?_cons_zero, List.getElem?_cons_succ, List.append_nil, List.nil_append, List.cons_append, ne_eq, if_false, if_true, Nat.reduceEqDiff, reduceCtorEq]
    refine SemK.weak _ _ _ ?_ tail
    refine Weak.fr [0, 160] [] hx (by simp only [fr_length]) (by decide) ?_ ?_
    · simp only [refI, LT, SimL, ne_eq, Nat.reduceLT, SimA, Sim, SimH, frz, hget, hhas, List.getElem?_cons_zero, List.getElem?_cons_succ, List.getElem?_nil, BEq.rfl, if_true, reduceCtorEq, Option.some.injEq, Nat.reduceEqDiff, if_false, List.contains_cons, List.contains_nil, V.ok, V.get, V.fget, V.fhas, Nat.reduceLeDiff, implies_true, Nat.reduceBEq, Int.cast_ofNat_Int]
    · simp only [LT, SimL, ne_eq, Nat.reduceLT, SimA, Sim, SimH, frz, hget, hhas, List.getElem?_cons_zero, List.getElem?_cons_succ, List.getElem?_nil, BEq.rfl, if_true, reduceCtorEq, Option.some.injEq, Nat.reduceEqDiff, if_false, List.contains_cons, List.contains_nil, V.ok, V.get, V.fget, V.fhas, Nat.reduceLeDiff, implies_true, Nat.reduceBEq, Int.cast_ofNat_Int, B_0]

end Mv
namespace Mv
open Go
set_option maxRecDepth 20000
set_option maxHeartbeats 4000000
set_option linter.unusedSimpArgs false

theorem veqP_regs (c : Bool) (g h : Nat → BitVec 64) : veqP c (.ar 16 1 false .int) (.ar 1 16 (fun j => W (g j))) (.ar 1 16 (fun j => W (h j))) = True := by
  refine eq_true ?_
  simp only [veqP, true_and]
  intro i _
  refine ⟨rfl, rfl, ?_⟩
  simp only [W]
theorem veqV_regs (g : Nat → BitVec 64) : veqV (.ar 16 1 false .int) (.ar 1 16 (fun j => W (g j))) (.ar 1 16 (fun j => W (g j))) = true := by
  simp only [veqV, W, decide_true]
  rfl

theorem call_freshL {M : Seat} {f : Nat} {us us0 : List V} {H : Hp} {n : Nat} {K : V → Hp → Prop} {v a : V} (z : List Nat) (hr : Runs M f us0 [] 0 (fun r H' k' => r = v ∧ H' = [(0, a)] ∧ k' = 1)) (hus : SimA H [] z us0 us) (hv : NoIm v) (ha : NoIm a) (hK : K (v.ren [n]) ((n, a.ren [n]) :: H)) : CallK M f us H n K := by
  refine call_runs hr True [] z List.nodup_nil (by simp) rfl (by simp) hus trivial ?_
  rintro v' H' k' ⟨rfl, rfl, rfl⟩
  refine ⟨⟨by omega, fun _ => ⟨hv, fun id h => ?_⟩⟩, ?_⟩
  · simp only [hhas, Bool.or_false, beq_iff_eq] at h
    subst h
    simpa only [hget, if_true] using ha
  simpa [renH, hrest, nums1] using hK

end Mv
