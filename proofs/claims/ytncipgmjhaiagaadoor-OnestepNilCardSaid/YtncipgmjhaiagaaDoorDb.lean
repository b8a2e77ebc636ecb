/- keccak: absorbed, digest. -/
import Derived.Test.YtncipgmjhaiagaaDoorCa
import Derived.Test.YtncipgmjhaiagaaDoorY
import Derived.Test.YtncipgmjhaiagaaDoorDa
set_option linter.unusedSimpArgs false
set_option linter.unusedVariables false
namespace Mv
open Go
set_option maxRecDepth 20000
set_option maxHeartbeats 4000000
set_option linter.unusedSimpArgs false

/-- A state behind a piece. -/
def absd (s : List (BitVec 64)) (p : Nat → BitVec 8) : List (BitVec 64) := perm (mix s p)

theorem runs_absorbed {M : Seat} (ok : OkM M) (s : List (BitVec 64)) (p : Nat → BitVec 8) :
    Runs M 318 [.ar 1 25 (ws s), .lst 1 136 (fun j => B (p j))] [] 0 (fun r H' k' => r = .ar 1 25 (ws (absd s p)) ∧ H' = [] ∧ k' = 0) := by
  refine runs_fr ok.k318 rfl fun x hx => ?_
  refine ex_sound 30 _ _ _ _ ?_
  simp only [f318, c318, LR, ↓step_conv, ex, Ro, RoD, OpD, epk, epochs, Mv.hx, idsOK, bs, wmask, LK.isW, LK.isA, LK.isP, step, num, X.ev, List.cons_append, List.nil_append, ne_eq, Nat.reduceLT, Int.reduceLE, Int.reduceLT, Int.cast_ofNat_Int, Nat.reducePow, Nat.reduceAnd, Nat.reduceOr, Nat.reduceShiftRight, BEq.rfl, Int.reduceToNat, vpick, vopt, optInt, isInt, vbuild, vbuildOK, vcaps, vcapsOK, elems, elemsOK, List.length_cons, List.length_nil, hget, hset, hdel, hhas, padd, V.ok, V.get, V.set, V.fget, V.fhas, V.fset, noR, Z.v, Z.sz, if_true, if_false, ite_true, ite_false, cond_true, cond_false, reduceCtorEq, forall_const, Nat.reduceAdd, Nat.reduceMul, Nat.reduceSub, Nat.reduceBEq, Nat.reduceEqDiff, dropTo, List.map_cons, List.map_nil, List.filter_cons, List.filter_nil]
  refine loop_rule (σ := Nat) (fun i => i ≤ 17) (fun i => fr 38 [(1, .lst 1 136 (fun j => B (p j))), (2, .ptr 0 []), (4, .ptr 1 []), (8, .int .i64 i)])
      (fun i => [(0, .ar 1 25 (fun j => W (abq s p i 0 j))), (1, .ar 1 25 (fun _ => W 0))]) (fun _ => 2) (fun i => 17 - i) 0 (by omega) ?_ ?_
  · refine Weak.fr [0, 16] [] hx (by simp only [fr_length]) (by decide) ?_ ?_
    · simp only [LT, SimL, ne_eq, Nat.reduceLT, SimA, Sim, SimH, frz, hget, hhas, List.getElem?_cons_zero, List.getElem?_cons_succ, List.getElem?_nil, BEq.rfl, if_true, reduceCtorEq, Option.some.injEq, Nat.reduceEqDiff, if_false, List.contains_cons, List.contains_nil, V.ok, V.get, V.fget, V.fhas, Nat.reduceLeDiff, implies_true, Nat.reduceBEq, Int.cast_ofNat_Int]
    · simp only [LT, SimL, ne_eq, Nat.reduceLT, SimA, Sim, SimH, frz, hget, hhas, List.getElem?_cons_zero, List.getElem?_cons_succ, List.getElem?_nil, BEq.rfl, if_true, reduceCtorEq, Option.some.injEq, Nat.reduceEqDiff, if_false, List.contains_cons, List.contains_nil, V.ok, V.get, V.fget, V.fhas, Nat.reduceLeDiff, implies_true, Nat.reduceBEq, Int.cast_ofNat_Int]
      exact ⟨fun j _ => (abq_0 _ _ _).symm, fun _ _ => by simp only [W, Sim]; rfl⟩
  · intro i hi
    refine ex_sound 40 _ _ _ _ ?_
    simp only [LR, ↓step_conv, ex, Ro, RoD, OpD, epk, epochs, Mv.hx, idsOK, bs, wmask, LK.isW, LK.isA, LK.isP, step, num, X.ev, List.cons_append, List.nil_append, ne_eq, Nat.reduceLT, Int.reduceLE, Int.reduceLT, Int.cast_ofNat_Int, Nat.reducePow, Nat.reduceAnd, Nat.reduceOr, Nat.reduceShiftRight, BEq.rfl, Int.reduceToNat, vpick, vopt, optInt, isInt, vbuild, vbuildOK, vcaps, vcapsOK, elems, elemsOK, List.length_cons, List.length_nil, hget, hset, hdel, hhas, padd, V.ok, V.get, V.set, V.fget, V.fhas, V.fset, noR, Z.v, Z.sz, if_true, if_false, ite_true, ite_false, cond_true, cond_false, reduceCtorEq, forall_const, Nat.reduceAdd, Nat.reduceMul, Nat.reduceSub, Nat.reduceBEq, Nat.reduceEqDiff, dropTo, List.map_cons, List.map_nil, List.filter_cons, List.filter_nil]
    refine ⟨fun hlt => ?_, fun hge => ?_⟩
    · have hlt : (i : Int) < 17 := by simpa using hlt
      have w1 : IntKind.i64.wrap (8 * (i : Int)) = 8 * i := wrap_i64 (by omega)
      have w2 : IntKind.i64.wrap (8 * (i : Int) + 8) = 8 * i + 8 := wrap_i64 (by omega)
      simp only [w1, w2]
      refine ⟨⟨by omega, by omega, by omega⟩, ?_⟩
      refine loop_rule (σ := Nat) (fun k => k ≤ 8) (fun k => fr 38 [(1, .lst 1 136 (fun j => B (p j))), (2, .ptr 0 []), (4, .ptr 1 []), (5, .int .i64 i), (8, .int .i64 i), (17, .lst 1 8 (fun j => B (p (8 * i + j)))), (18, .int .i64 8), (19, .int .i64 k)])
        (fun k => [(0, .ar 1 25 (fun j => W (abq s p i k j))), (1, .ar 1 25 (fun _ => W 0))]) (fun _ => 2) (fun k => 8 - k) 0 (by omega) ?_ ?_
      · refine Weak.fr [0, 1] [] hx (by simp only [fr_length]) (by decide) ?_ ?_
        · simp only [LT, SimL, ne_eq, Nat.reduceLT, SimA, Sim, SimH, frz, hget, hhas, List.getElem?_cons_zero, List.getElem?_cons_succ, List.getElem?_nil, BEq.rfl, if_true, reduceCtorEq, Option.some.injEq, Nat.reduceEqDiff, if_false, List.contains_cons, List.contains_nil, V.ok, V.get, V.fget, V.fhas, Nat.reduceLeDiff, implies_true, Nat.reduceBEq, Int.cast_ofNat_Int]
          refine ⟨⟨by omega, fun j _ => ?_⟩, by omega⟩
          have e1 : (8 * (i : Int)).toNat = 8 * i := by omega
          rw [e1]
        · simp only [LT, SimL, ne_eq, Nat.reduceLT, SimA, Sim, SimH, frz, hget, hhas, List.getElem?_cons_zero, List.getElem?_cons_succ, List.getElem?_nil, BEq.rfl, if_true, reduceCtorEq, Option.some.injEq, Nat.reduceEqDiff, if_false, List.contains_cons, List.contains_nil, V.ok, V.get, V.fget, V.fhas, Nat.reduceLeDiff, implies_true, Nat.reduceBEq, Int.cast_ofNat_Int]
      · intro k hk
        (refine ex_sound 40 _ _ _ _ ?_; simp (maxSteps := 2000000) only [LU, ↓step_conv, ex, Ro, RoD, OpD, epk, epochs, Mv.hx, idsOK, bs, wmask, LK.isW, LK.isA, LK.isP, step, num, X.ev, List.cons_append, List.nil_append, ne_eq, Nat.reduceLT, Int.reduceLE, Int.reduceLT, Int.cast_ofNat_Int, Nat.reducePow, Nat.reduceAnd, Nat.reduceOr, Nat.reduceShiftRight, BEq.rfl, Int.reduceToNat, vpick, vopt, optInt, isInt, vbuild, vbuildOK, vcaps, vcapsOK, elems, elemsOK, List.length_cons, List.length_nil, hget, hset, hdel, hhas, padd, V.ok, V.get, V.set, V.fget, V.fhas, V.fset, noR, Z.v, Z.sz, if_true, if_false, ite_true, ite_false, cond_true, cond_false, reduceCtorEq, forall_const, Nat.reduceAdd, Nat.reduceMul, Nat.reduceSub, Nat.reduceBEq, Nat.reduceEqDiff, dropTo, List.map_cons, List.map_nil, List.filter_cons, List.filter_nil])
        refine ⟨fun hlt2 => ?_, fun hge2 => ?_⟩
        · have hlt2 : (k : Int) < 8 := by simpa using hlt2
          have w3 : IntKind.i64.wrap (8 * (k : Int)) = 8 * k := wrap_i64 (by omega)
          have w4 : IntKind.i64.wrap ((k : Int) + 1) = ((k + 1 : Nat) : Int) := by rw [wrap_i64 (by omega)]; omega
          have w5 : (8 * (k : Int)).toNat = 8 * k := by omega
          simp only [w3, w4, w5]
          refine ⟨⟨by omega, by omega⟩, ⟨by omega, by omega⟩, by omega, by omega, by omega, ⟨by omega, by omega⟩, by omega, k + 1, by omega, by omega, ?_⟩
          refine Weak.fr [0, 1] [] hx (by simp only [fr_length]) (by decide) ?_ ?_
          · simp only [LT, SimL, ne_eq, Nat.reduceLT, SimA, Sim, SimH, frz, hget, hhas, List.getElem?_cons_zero, List.getElem?_cons_succ, List.getElem?_nil, BEq.rfl, if_true, reduceCtorEq, Option.some.injEq, Nat.reduceEqDiff, if_false, List.contains_cons, List.contains_nil, V.ok, V.get, V.fget, V.fhas, Nat.reduceLeDiff, implies_true, Nat.reduceBEq, Int.cast_ofNat_Int]
          · simp only [LT, SimL, ne_eq, Nat.reduceLT, SimA, Sim, SimH, frz, hget, hhas, List.getElem?_cons_zero, List.getElem?_cons_succ, List.getElem?_nil, BEq.rfl, if_true, reduceCtorEq, Option.some.injEq, Nat.reduceEqDiff, if_false, List.contains_cons, List.contains_nil, V.ok, V.get, V.fget, V.fhas, Nat.reduceLeDiff, implies_true, Nat.reduceBEq, Int.cast_ofNat_Int]
            exact fun j _ => abq_k _ _ _ _ _
        · have hge2 : ¬ (k : Int) < 8 := by simpa using hge2
          have hk8 : k = 8 := by omega
          subst hk8
          have w4 : IntKind.i64.wrap ((i : Int) + 1) = ((i + 1 : Nat) : Int) := by rw [wrap_i64 (by omega)]; omega
          refine ⟨i + 1, by omega, by omega, ?_⟩
          refine Weak.fr [0, 1] [] hx (by simp only [fr_length]) (by decide) ?_ ?_
          · simp only [LT, SimL, ne_eq, Nat.reduceLT, SimA, Sim, SimH, frz, hget, hhas, List.getElem?_cons_zero, List.getElem?_cons_succ, List.getElem?_nil, BEq.rfl, if_true, reduceCtorEq, Option.some.injEq, Nat.reduceEqDiff, if_false, List.contains_cons, List.contains_nil, V.ok, V.get, V.fget, V.fhas, Nat.reduceLeDiff, implies_true, Nat.reduceBEq, Int.cast_ofNat_Int, w4]
          · simp only [LT, SimL, ne_eq, Nat.reduceLT, SimA, Sim, SimH, frz, hget, hhas, List.getElem?_cons_zero, List.getElem?_cons_succ, List.getElem?_nil, BEq.rfl, if_true, reduceCtorEq, Option.some.injEq, Nat.reduceEqDiff, if_false, List.contains_cons, List.contains_nil, V.ok, V.get, V.fget, V.fhas, Nat.reduceLeDiff, implies_true, Nat.reduceBEq, Int.cast_ofNat_Int]
            exact fun j _ => abq_i _ _ _ _
    · have hge : ¬ (i : Int) < 17 := by simpa using hge
      have hi17 : i = 17 := by omega
      subst hi17
      refine call_pure (runs_Permute ok.k417 ok.k462 (mix s p)) ⟨?_, trivial⟩ rfl ?_
      · simp only [LT, SimL, ne_eq, Nat.reduceLT, SimA, Sim, SimH, frz, hget, hhas, List.getElem?_cons_zero, List.getElem?_cons_succ, List.getElem?_nil, BEq.rfl, if_true, reduceCtorEq, Option.some.injEq, Nat.reduceEqDiff, if_false, List.contains_cons, List.contains_nil, V.ok, V.get, V.fget, V.fhas, Nat.reduceLeDiff, implies_true, Nat.reduceBEq, Int.cast_ofNat_Int]
        exact fun j hj => (mix_at _ _ _ hj).symm
      simp only [LR, ↓step_conv, ex, Ro, RoD, OpD, epk, epochs, Mv.hx, idsOK, bs, wmask, LK.isW, LK.isA, LK.isP, step, num, X.ev, List.cons_append, List.nil_append, ne_eq, Nat.reduceLT, Int.reduceLE, Int.reduceLT, Int.cast_ofNat_Int, Nat.reducePow, Nat.reduceAnd, Nat.reduceOr, Nat.reduceShiftRight, BEq.rfl, Int.reduceToNat, vpick, vopt, optInt, isInt, vbuild, vbuildOK, vcaps, vcapsOK, elems, elemsOK, List.length_cons, List.length_nil, hget, hset, hdel, hhas, padd, V.ok, V.get, V.set, V.fget, V.fhas, V.fset, noR, Z.v, Z.sz, if_true, if_false, ite_true, ite_false, cond_true, cond_false, reduceCtorEq, forall_const, Nat.reduceAdd, Nat.reduceMul, Nat.reduceSub, Nat.reduceBEq, Nat.reduceEqDiff, dropTo, List.map_cons, List.map_nil, List.filter_cons, List.filter_nil]
      refine RetS.mk hx [] [] (.ar 1 25 (ws (absd s p))) [] 0 (by decide) ?_ ?_ trivial ⟨rfl, rfl, rfl⟩
      · simp only [res, resP, LR, ↓step_conv, ex, Ro, RoD, OpD, epk, epochs, Mv.hx, idsOK, bs, wmask, LK.isW, LK.isA, LK.isP, step, num, X.ev, List.cons_append, List.nil_append, ne_eq, Nat.reduceLT, Int.reduceLE, Int.reduceLT, Int.cast_ofNat_Int, Nat.reducePow, Nat.reduceAnd, Nat.reduceOr, Nat.reduceShiftRight, BEq.rfl, Int.reduceToNat, vpick, vopt, optInt, isInt, vbuild, vbuildOK, vcaps, vcapsOK, elems, elemsOK, List.length_cons, List.length_nil, hget, hset, hdel, hhas, padd, V.ok, V.get, V.set, V.fget, V.fhas, V.fset, noR, Z.v, Z.sz, if_true, if_false, ite_true, ite_false, cond_true, cond_false, reduceCtorEq, forall_const, Nat.reduceAdd, Nat.reduceMul, Nat.reduceSub, Nat.reduceBEq, Nat.reduceEqDiff, dropTo, List.map_cons, List.map_nil, List.filter_cons, List.filter_nil]
      · simp only [res, resV, LR, ↓step_conv, ex, Ro, RoD, OpD, epk, epochs, Mv.hx, idsOK, bs, wmask, LK.isW, LK.isA, LK.isP, step, num, X.ev, List.cons_append, List.nil_append, ne_eq, Nat.reduceLT, Int.reduceLE, Int.reduceLT, Int.cast_ofNat_Int, Nat.reducePow, Nat.reduceAnd, Nat.reduceOr, Nat.reduceShiftRight, BEq.rfl, Int.reduceToNat, vpick, vopt, optInt, isInt, vbuild, vbuildOK, vcaps, vcapsOK, elems, elemsOK, List.length_cons, List.length_nil, hget, hset, hdel, hhas, padd, V.ok, V.get, V.set, V.fget, V.fhas, V.fset, noR, Z.v, Z.sz, if_true, if_false, ite_true, ite_false, cond_true, cond_false, reduceCtorEq, forall_const, Nat.reduceAdd, Nat.reduceMul, Nat.reduceSub, Nat.reduceBEq, Nat.reduceEqDiff, dropTo, List.map_cons, List.map_nil, List.filter_cons, List.filter_nil, LT, SimL, ne_eq, Nat.reduceLT, SimA, Sim, SimH, frz, hget, hhas, List.getElem?_cons_zero, List.getElem?_cons_succ, List.getElem?_nil, BEq.rfl, if_true, reduceCtorEq, Option.some.injEq, Nat.reduceEqDiff, if_false, List.contains_cons, List.contains_nil, V.ok, V.get, V.fget, V.fhas, Nat.reduceLeDiff, implies_true, Nat.reduceBEq, Int.cast_ofNat_Int]
        exact fun _ _ => rfl

theorem runs_digest {M : Seat} (ok : OkM M) (s : List (BitVec 64)) :
    Runs M 317 [.ar 1 25 (ws s)] [] 0 (fun r H' k' => r = dg (dig s) ∧ H' = [] ∧ k' = 0) := by
  refine runs_fr ok.k317 rfl fun x hx => ?_
  refine ex_sound 30 _ _ _ _ ?_
  simp only [f317, c317, LR, ↓step_conv, ex, Ro, RoD, OpD, epk, epochs, Mv.hx, idsOK, bs, wmask, LK.isW, LK.isA, LK.isP, step, num, X.ev, List.cons_append, List.nil_append, ne_eq, Nat.reduceLT, Int.reduceLE, Int.reduceLT, Int.cast_ofNat_Int, Nat.reducePow, Nat.reduceAnd, Nat.reduceOr, Nat.reduceShiftRight, BEq.rfl, Int.reduceToNat, vpick, vopt, optInt, isInt, vbuild, vbuildOK, vcaps, vcapsOK, elems, elemsOK, List.length_cons, List.length_nil, hget, hset, hdel, hhas, padd, V.ok, V.get, V.set, V.fget, V.fhas, V.fset, noR, Z.v, Z.sz, if_true, if_false, ite_true, ite_false, cond_true, cond_false, reduceCtorEq, forall_const, Nat.reduceAdd, Nat.reduceMul, Nat.reduceSub, Nat.reduceBEq, Nat.reduceEqDiff, dropTo, List.map_cons, List.map_nil, List.filter_cons, List.filter_nil]
  refine loop_rule (σ := Nat) (fun i => i ≤ 32) (fun i => fr 21 [(1, .ptr 0 []), (2, .ptr 1 []), (3, .ptr 2 []), (5, .int .i64 i)])
      (fun i => [(0, .ar 1 25 (ws s)), (1, .ar 1 32 (fun _ => B 0)), (2, .ar 1 32 (fun j => B (if j < i then (dig s).at j else 0)))]) (fun _ => 3) (fun i => 32 - i) 0 (by omega) ?_ ?_
  · refine Weak.fr [0, 16, 32] [] hx (by simp only [fr_length]) (by decide) ?_ ?_
    · simp only [LT, SimL, ne_eq, Nat.reduceLT, SimA, Sim, SimH, frz, hget, hhas, List.getElem?_cons_zero, List.getElem?_cons_succ, List.getElem?_nil, BEq.rfl, if_true, reduceCtorEq, Option.some.injEq, Nat.reduceEqDiff, if_false, List.contains_cons, List.contains_nil, V.ok, V.get, V.fget, V.fhas, Nat.reduceLeDiff, implies_true, Nat.reduceBEq, Int.cast_ofNat_Int]
    · simp only [LT, SimL, ne_eq, Nat.reduceLT, SimA, Sim, SimH, frz, hget, hhas, List.getElem?_cons_zero, List.getElem?_cons_succ, List.getElem?_nil, BEq.rfl, if_true, reduceCtorEq, Option.some.injEq, Nat.reduceEqDiff, if_false, List.contains_cons, List.contains_nil, V.ok, V.get, V.fget, V.fhas, Nat.reduceLeDiff, implies_true, Nat.reduceBEq, Int.cast_ofNat_Int]
      exact ⟨fun _ _ => by simp only [B, Sim]; rfl, fun _ _ => by rw [if_neg (by omega)]; simp only [B, Sim]; rfl⟩
  · intro i hi
    (refine ex_sound 40 _ _ _ _ ?_; simp (maxSteps := 2000000) only [LU, ↓step_conv, ex, Ro, RoD, OpD, epk, epochs, Mv.hx, idsOK, bs, wmask, LK.isW, LK.isA, LK.isP, step, num, X.ev, List.cons_append, List.nil_append, ne_eq, Nat.reduceLT, Int.reduceLE, Int.reduceLT, Int.cast_ofNat_Int, Nat.reducePow, Nat.reduceAnd, Nat.reduceOr, Nat.reduceShiftRight, BEq.rfl, Int.reduceToNat, vpick, vopt, optInt, isInt, vbuild, vbuildOK, vcaps, vcapsOK, elems, elemsOK, List.length_cons, List.length_nil, hget, hset, hdel, hhas, padd, V.ok, V.get, V.set, V.fget, V.fhas, V.fset, noR, Z.v, Z.sz, if_true, if_false, ite_true, ite_false, cond_true, cond_false, reduceCtorEq, forall_const, Nat.reduceAdd, Nat.reduceMul, Nat.reduceSub, Nat.reduceBEq, Nat.reduceEqDiff, dropTo, List.map_cons, List.map_nil, List.filter_cons, List.filter_nil])
    refine ⟨fun hlt => ?_, fun hge => ?_⟩
    · have hlt : (i : Int) < 32 := by simpa using hlt
      have w1 : IntKind.i64.wrap ((i : Int) + 1) = ((i + 1 : Nat) : Int) := by rw [wrap_i64 (by omega)]; omega
      have w2 : IntKind.i64.wrap ((i : Int).tdiv 8) = ((i / 8 : Nat) : Int) := by rw [Int.tdiv_eq_ediv_of_nonneg (by omega), wrap_i64 (by omega)]; omega
      have w3 : IntKind.i64.wrap (8 * (i : Int).tmod 8) = ((8 * (i % 8) : Nat) : Int) := by rw [Int.tmod_eq_emod_of_nonneg (by omega), wrap_i64 (by omega)]; omega
      simp only [w1, w2, w3, Int.toNat_natCast]
      refine ⟨by omega, ⟨by omega, by omega⟩, by omega, by omega, by omega, ⟨by omega, by omega⟩, by omega, i + 1, by omega, by omega, ?_⟩
      refine Weak.fr [0, 1, 2] [] hx (by simp only [fr_length]) (by decide) ?_ ?_
      · simp only [LT, SimL, ne_eq, Nat.reduceLT, SimA, Sim, SimH, frz, hget, hhas, List.getElem?_cons_zero, List.getElem?_cons_succ, List.getElem?_nil, BEq.rfl, if_true, reduceCtorEq, Option.some.injEq, Nat.reduceEqDiff, if_false, List.contains_cons, List.contains_nil, V.ok, V.get, V.fget, V.fhas, Nat.reduceLeDiff, implies_true, Nat.reduceBEq, Int.cast_ofNat_Int]
      · simp only [LT, SimL, ne_eq, Nat.reduceLT, SimA, Sim, SimH, frz, hget, hhas, List.getElem?_cons_zero, List.getElem?_cons_succ, List.getElem?_nil, BEq.rfl, if_true, reduceCtorEq, Option.some.injEq, Nat.reduceEqDiff, if_false, List.contains_cons, List.contains_nil, V.ok, V.get, V.fget, V.fhas, Nat.reduceLeDiff, implies_true, Nat.reduceBEq, Int.cast_ofNat_Int]
        intro j hj
        by_cases hji : j = i
        · subst hji
          rw [if_pos rfl, if_pos (by omega), dig, Dg.at_mk' _ _ hj]
        · rw [if_neg hji]
          by_cases h2 : j < i
          · rw [if_pos h2, if_pos (by omega)]
          · rw [if_neg h2, if_neg (by omega)]
    · have hge : ¬ (i : Int) < 32 := by simpa using hge
      have hi17 : i = 32 := by omega
      subst hi17
      refine RetS.mk hx [] [] (dg (dig s)) [] 0 (by decide) ?_ ?_ trivial ⟨rfl, rfl, rfl⟩
      · simp only [res, resP, LR, ↓step_conv, ex, Ro, RoD, OpD, epk, epochs, Mv.hx, idsOK, bs, wmask, LK.isW, LK.isA, LK.isP, step, num, X.ev, List.cons_append, List.nil_append, ne_eq, Nat.reduceLT, Int.reduceLE, Int.reduceLT, Int.cast_ofNat_Int, Nat.reducePow, Nat.reduceAnd, Nat.reduceOr, Nat.reduceShiftRight, BEq.rfl, Int.reduceToNat, vpick, vopt, optInt, isInt, vbuild, vbuildOK, vcaps, vcapsOK, elems, elemsOK, List.length_cons, List.length_nil, hget, hset, hdel, hhas, padd, V.ok, V.get, V.set, V.fget, V.fhas, V.fset, noR, Z.v, Z.sz, if_true, if_false, ite_true, ite_false, cond_true, cond_false, reduceCtorEq, forall_const, Nat.reduceAdd, Nat.reduceMul, Nat.reduceSub, Nat.reduceBEq, Nat.reduceEqDiff, dropTo, List.map_cons, List.map_nil, List.filter_cons, List.filter_nil]
      · simp only [res, resV, LR, ↓step_conv, ex, Ro, RoD, OpD, epk, epochs, Mv.hx, idsOK, bs, wmask, LK.isW, LK.isA, LK.isP, step, num, X.ev, List.cons_append, List.nil_append, ne_eq, Nat.reduceLT, Int.reduceLE, Int.reduceLT, Int.cast_ofNat_Int, Nat.reducePow, Nat.reduceAnd, Nat.reduceOr, Nat.reduceShiftRight, BEq.rfl, Int.reduceToNat, vpick, vopt, optInt, isInt, vbuild, vbuildOK, vcaps, vcapsOK, elems, elemsOK, List.length_cons, List.length_nil, hget, hset, hdel, hhas, padd, V.ok, V.get, V.set, V.fget, V.fhas, V.fset, noR, Z.v, Z.sz, if_true, if_false, ite_true, ite_false, cond_true, cond_false, reduceCtorEq, forall_const, Nat.reduceAdd, Nat.reduceMul, Nat.reduceSub, Nat.reduceBEq, Nat.reduceEqDiff, dropTo, List.map_cons, List.map_nil, List.filter_cons, List.filter_nil, LT, SimL, ne_eq, Nat.reduceLT, SimA, Sim, SimH, frz, hget, hhas, List.getElem?_cons_zero, List.getElem?_cons_succ, List.getElem?_nil, BEq.rfl, if_true, reduceCtorEq, Option.some.injEq, Nat.reduceEqDiff, if_false, List.contains_cons, List.contains_nil, V.ok, V.get, V.fget, V.fhas, Nat.reduceLeDiff, implies_true, Nat.reduceBEq, Int.cast_ofNat_Int, dg]
        intro j hj
        rw [if_pos hj]

/-- The digest of two digests. -/
def pair (a b : Dg) : Dg := dig (absd (List.replicate 25 0) (pad a b))

theorem pad_row (a b : Dg) (j : Nat) : (if j = 135 then V.int .u8 128 else if j = 64 then V.int .u8 1 else if 32 ≤ j ∧ j < 32 + min 32 104 then B (b.at (j - 32)) else if 0 ≤ j ∧ j < min 32 136 then B (a.at (j - 0)) else V.int .u8 0) = B (pad a b j) := by
  have h1 : V.int .u8 128 = B 128 := rfl
  have h2 : V.int .u8 1 = B 1 := rfl
  have h3 : V.int .u8 0 = B 0 := rfl
  simp only [h1, h2, h3, ite_B, pad]
  congr 1
  repeat' split
  all_goals first | rfl | omega

theorem runs_Pair {M : Seat} (ok : OkM M) (a b : Dg) :
    Runs M 207 [dg a, dg b] [] 0 (fun r H' k' => r = dg (pair a b) ∧ H' = [] ∧ k' = 0) := by
  refine runs_fr ok.k207 rfl fun x hx => ?_
  refine ex_sound 30 _ _ _ _ ?_
  simp only [f207, c207, dg, LR, ↓step_conv, ex, Ro, RoD, OpD, epk, epochs, Mv.hx, idsOK, bs, wmask, LK.isW, LK.isA, LK.isP, step, num, X.ev, List.cons_append, List.nil_append, ne_eq, Nat.reduceLT, Int.reduceLE, Int.reduceLT, Int.cast_ofNat_Int, Nat.reducePow, Nat.reduceAnd, Nat.reduceOr, Nat.reduceShiftRight, BEq.rfl, Int.reduceToNat, vpick, vopt, optInt, isInt, vbuild, vbuildOK, vcaps, vcapsOK, elems, elemsOK, List.length_cons, List.length_nil, hget, hset, hdel, hhas, padd, V.ok, V.get, V.set, V.fget, V.fhas, V.fset, noR, Z.v, Z.sz, if_true, if_false, ite_true, ite_false, cond_true, cond_false, reduceCtorEq, forall_const, Nat.reduceAdd, Nat.reduceMul, Nat.reduceSub, Nat.reduceBEq, Nat.reduceEqDiff, dropTo, List.map_cons, List.map_nil, List.filter_cons, List.filter_nil]
  refine ⟨⟨by omega, by omega⟩, ⟨by omega, by omega⟩, ?_, ?_, ?_⟩
  · rw [if_neg (by omega), if_neg (by omega)]; rfl
  · rw [if_neg (by omega), if_neg (by omega)]; rfl
  refine call_pureZ [48] (runs_absorbed ok (List.replicate 25 0) (pad a b)) ?_ rfl ?_
  · simp only [LT, SimL, ne_eq, Nat.reduceLT, SimA, Sim, SimH, frz, hget, hhas, List.getElem?_cons_zero, List.getElem?_cons_succ, List.getElem?_nil, BEq.rfl, if_true, reduceCtorEq, Option.some.injEq, Nat.reduceEqDiff, if_false, List.contains_cons, List.contains_nil, V.ok, V.get, V.fget, V.fhas, Nat.reduceLeDiff, implies_true, Nat.reduceBEq, Int.cast_ofNat_Int, pad_row]
    intro j hj
    have e1 : (List.replicate 25 (0 : BitVec 64)).getD j 0 = 0 := by rw [List.getD, List.getElem?_replicate, if_pos hj]; rfl
    rw [e1]
    simp only [W, Sim]; rfl
  simp only [hrest, LR, ↓step_conv, ex, Ro, RoD, OpD, epk, epochs, Mv.hx, idsOK, bs, wmask, LK.isW, LK.isA, LK.isP, step, num, X.ev, List.cons_append, List.nil_append, ne_eq, Nat.reduceLT, Int.reduceLE, Int.reduceLT, Int.cast_ofNat_Int, Nat.reducePow, Nat.reduceAnd, Nat.reduceOr, Nat.reduceShiftRight, BEq.rfl, Int.reduceToNat, vpick, vopt, optInt, isInt, vbuild, vbuildOK, vcaps, vcapsOK, elems, elemsOK, List.length_cons, List.length_nil, hget, hset, hdel, hhas, padd, V.ok, V.get, V.set, V.fget, V.fhas, V.fset, noR, Z.v, Z.sz, if_true, if_false, ite_true, ite_false, cond_true, cond_false, reduceCtorEq, forall_const, Nat.reduceAdd, Nat.reduceMul, Nat.reduceSub, Nat.reduceBEq, Nat.reduceEqDiff, dropTo, List.map_cons, List.map_nil, List.filter_cons, List.filter_nil]
  refine call_pure (runs_digest ok (absd (List.replicate 25 0) (pad a b))) ?_ rfl ?_
  · simp only [LT, SimL, ne_eq, Nat.reduceLT, SimA, Sim, SimH, frz, hget, hhas, List.getElem?_cons_zero, List.getElem?_cons_succ, List.getElem?_nil, BEq.rfl, if_true, reduceCtorEq, Option.some.injEq, Nat.reduceEqDiff, if_false, List.contains_cons, List.contains_nil, V.ok, V.get, V.fget, V.fhas, Nat.reduceLeDiff, implies_true, Nat.reduceBEq, Int.cast_ofNat_Int]
  simp only [dg, LR, ↓step_conv, ex, Ro, RoD, OpD, epk, epochs, Mv.hx, idsOK, bs, wmask, LK.isW, LK.isA, LK.isP, step, num, X.ev, List.cons_append, List.nil_append, ne_eq, Nat.reduceLT, Int.reduceLE, Int.reduceLT, Int.cast_ofNat_Int, Nat.reducePow, Nat.reduceAnd, Nat.reduceOr, Nat.reduceShiftRight, BEq.rfl, Int.reduceToNat, vpick, vopt, optInt, isInt, vbuild, vbuildOK, vcaps, vcapsOK, elems, elemsOK, List.length_cons, List.length_nil, hget, hset, hdel, hhas, padd, V.ok, V.get, V.set, V.fget, V.fhas, V.fset, noR, Z.v, Z.sz, if_true, if_false, ite_true, ite_false, cond_true, cond_false, reduceCtorEq, forall_const, Nat.reduceAdd, Nat.reduceMul, Nat.reduceSub, Nat.reduceBEq, Nat.reduceEqDiff, dropTo, List.map_cons, List.map_nil, List.filter_cons, List.filter_nil]
  refine RetS.mk hx [] [] (dg (pair a b)) [] 0 (by decide) ?_ ?_ trivial ⟨rfl, rfl, rfl⟩
  · simp only [res, resP, LR, ↓step_conv, ex, Ro, RoD, OpD, epk, epochs, Mv.hx, idsOK, bs, wmask, LK.isW, LK.isA, LK.isP, step, num, X.ev, List.cons_append, List.nil_append, ne_eq, Nat.reduceLT, Int.reduceLE, Int.reduceLT, Int.cast_ofNat_Int, Nat.reducePow, Nat.reduceAnd, Nat.reduceOr, Nat.reduceShiftRight, BEq.rfl, Int.reduceToNat, vpick, vopt, optInt, isInt, vbuild, vbuildOK, vcaps, vcapsOK, elems, elemsOK, List.length_cons, List.length_nil, hget, hset, hdel, hhas, padd, V.ok, V.get, V.set, V.fget, V.fhas, V.fset, noR, Z.v, Z.sz, if_true, if_false, ite_true, ite_false, cond_true, cond_false, reduceCtorEq, forall_const, Nat.reduceAdd, Nat.reduceMul, Nat.reduceSub, Nat.reduceBEq, Nat.reduceEqDiff, dropTo, List.map_cons, List.map_nil, List.filter_cons, List.filter_nil]
  · simp only [res, resV, LR, ↓step_conv, ex, Ro, RoD, OpD, epk, epochs, Mv.hx, idsOK, bs, wmask, LK.isW, LK.isA, LK.isP, step, num, X.ev, List.cons_append, List.nil_append, ne_eq, Nat.reduceLT, Int.reduceLE, Int.reduceLT, Int.cast_ofNat_Int, Nat.reducePow, Nat.reduceAnd, Nat.reduceOr, Nat.reduceShiftRight, BEq.rfl, Int.reduceToNat, vpick, vopt, optInt, isInt, vbuild, vbuildOK, vcaps, vcapsOK, elems, elemsOK, List.length_cons, List.length_nil, hget, hset, hdel, hhas, padd, V.ok, V.get, V.set, V.fget, V.fhas, V.fset, noR, Z.v, Z.sz, if_true, if_false, ite_true, ite_false, cond_true, cond_false, reduceCtorEq, forall_const, Nat.reduceAdd, Nat.reduceMul, Nat.reduceSub, Nat.reduceBEq, Nat.reduceEqDiff, dropTo, List.map_cons, List.map_nil, List.filter_cons, List.filter_nil, LT, SimL, ne_eq, Nat.reduceLT, SimA, Sim, SimH, frz, hget, hhas, List.getElem?_cons_zero, List.getElem?_cons_succ, List.getElem?_nil, BEq.rfl, if_true, reduceCtorEq, Option.some.injEq, Nat.reduceEqDiff, if_false, List.contains_cons, List.contains_nil, V.ok, V.get, V.fget, V.fhas, Nat.reduceLeDiff, implies_true, Nat.reduceBEq, Int.cast_ofNat_Int, dg]
    exact fun _ _ => rfl
end Mv
namespace Mv
open Go
set_option maxRecDepth 20000
set_option maxHeartbeats 4000000
set_option linter.unusedSimpArgs false

/-- The nought of a height. -/
def nought : Nat → Dg
  | 0 => Dg.zero
  | h + 1 => pair (nought h) (nought h)

theorem runs_noughts {M : Seat} (ok : OkM M) :
    Runs M 315 [] [] 0 (fun r H' k' => r = .ar 32 17 (fun j => dg (nought j)) ∧ H' = [] ∧ k' = 0) := by
  refine runs_fr ok.k315 rfl fun x hx => ?_
  refine ex_sound 30 _ _ _ _ ?_
  simp only [f315, c315, LR, ↓step_conv, ex, Ro, RoD, OpD, epk, epochs, Mv.hx, idsOK, bs, wmask, LK.isW, LK.isA, LK.isP, step, num, X.ev, List.cons_append, List.nil_append, ne_eq, Nat.reduceLT, Int.reduceLE, Int.reduceLT, Int.cast_ofNat_Int, Nat.reducePow, Nat.reduceAnd, Nat.reduceOr, Nat.reduceShiftRight, BEq.rfl, Int.reduceToNat, vpick, vopt, optInt, isInt, vbuild, vbuildOK, vcaps, vcapsOK, elems, elemsOK, List.length_cons, List.length_nil, hget, hset, hdel, hhas, padd, V.ok, V.get, V.set, V.fget, V.fhas, V.fset, noR, Z.v, Z.sz, if_true, if_false, ite_true, ite_false, cond_true, cond_false, reduceCtorEq, forall_const, Nat.reduceAdd, Nat.reduceMul, Nat.reduceSub, Nat.reduceBEq, Nat.reduceEqDiff, dropTo, List.map_cons, List.map_nil, List.filter_cons, List.filter_nil]
  refine loop_rule (σ := Nat) (fun i => 1 ≤ i ∧ i ≤ 17) (fun i => fr 19 [(0, .ptr 0 []), (1, .ptr 1 []), (2, .int .i64 i)])
      (fun i => [(0, .ar 32 17 (fun _ => dg Dg.zero)), (1, .ar 32 17 (fun j => dg (if j < i then nought j else Dg.zero)))]) (fun _ => 2) (fun i => 17 - i) 1 (by omega) ?_ ?_
  · refine Weak.fr [0, 16] [] hx (by simp only [fr_length]) (by decide) ?_ ?_
    · simp only [LT, SimL, ne_eq, Nat.reduceLT, SimA, Sim, SimH, frz, hget, hhas, List.getElem?_cons_zero, List.getElem?_cons_succ, List.getElem?_nil, BEq.rfl, if_true, reduceCtorEq, Option.some.injEq, Nat.reduceEqDiff, if_false, List.contains_cons, List.contains_nil, V.ok, V.get, V.fget, V.fhas, Nat.reduceLeDiff, implies_true, Nat.reduceBEq, Int.cast_ofNat_Int]
    · simp only [LT, SimL, ne_eq, Nat.reduceLT, SimA, Sim, SimH, frz, hget, hhas, List.getElem?_cons_zero, List.getElem?_cons_succ, List.getElem?_nil, BEq.rfl, if_true, reduceCtorEq, Option.some.injEq, Nat.reduceEqDiff, if_false, List.contains_cons, List.contains_nil, V.ok, V.get, V.fget, V.fhas, Nat.reduceLeDiff, implies_true, Nat.reduceBEq, Int.cast_ofNat_Int, dg0]
      intro j hj
      by_cases h : j < 1
      · rw [if_pos h]; have : j = 0 := by omega
        subst this; rfl
      · rw [if_neg h]
  · intro i ⟨hi1, hi⟩
    (refine ex_sound 40 _ _ _ _ ?_; simp (maxSteps := 2000000) only [LU, ↓step_conv, ex, Ro, RoD, OpD, epk, epochs, Mv.hx, idsOK, bs, wmask, LK.isW, LK.isA, LK.isP, step, num, X.ev, List.cons_append, List.nil_append, ne_eq, Nat.reduceLT, Int.reduceLE, Int.reduceLT, Int.cast_ofNat_Int, Nat.reducePow, Nat.reduceAnd, Nat.reduceOr, Nat.reduceShiftRight, BEq.rfl, Int.reduceToNat, vpick, vopt, optInt, isInt, vbuild, vbuildOK, vcaps, vcapsOK, elems, elemsOK, List.length_cons, List.length_nil, hget, hset, hdel, hhas, padd, V.ok, V.get, V.set, V.fget, V.fhas, V.fset, noR, Z.v, Z.sz, if_true, if_false, ite_true, ite_false, cond_true, cond_false, reduceCtorEq, forall_const, Nat.reduceAdd, Nat.reduceMul, Nat.reduceSub, Nat.reduceBEq, Nat.reduceEqDiff, dropTo, List.map_cons, List.map_nil, List.filter_cons, List.filter_nil])
    refine ⟨fun hlt => ?_, fun hge => ?_⟩
    · have hlt : (i : Int) ≤ 16 := by simpa using hlt
      have w1 : IntKind.i64.wrap ((i : Int) - 1) = ((i - 1 : Nat) : Int) := by rw [wrap_i64 (by omega)]; omega
      have w2 : IntKind.i64.wrap ((i : Int) + 1) = ((i + 1 : Nat) : Int) := by rw [wrap_i64 (by omega)]; omega
      simp only [w1, Int.toNat_natCast, if_pos (show i - 1 < i by omega)]
      refine ⟨⟨by omega, by omega⟩, by omega, by omega, ⟨by omega, by omega⟩, by omega, by omega, _, _, call_pure (runs_Pair ok _ _) ⟨(Sim_dg _ _ _ _ _).mpr rfl, (Sim_dg _ _ _ _ _).mpr rfl, trivial⟩ rfl ⟨rfl, rfl⟩, ?_⟩
      simp only [LR, ↓step_conv, ex, Ro, RoD, OpD, epk, epochs, Mv.hx, idsOK, bs, wmask, LK.isW, LK.isA, LK.isP, step, num, X.ev, List.cons_append, List.nil_append, ne_eq, Nat.reduceLT, Int.reduceLE, Int.reduceLT, Int.cast_ofNat_Int, Nat.reducePow, Nat.reduceAnd, Nat.reduceOr, Nat.reduceShiftRight, BEq.rfl, Int.reduceToNat, vpick, vopt, optInt, isInt, vbuild, vbuildOK, vcaps, vcapsOK, elems, elemsOK, List.length_cons, List.length_nil, hget, hset, hdel, hhas, padd, V.ok, V.get, V.set, V.fget, V.fhas, V.fset, noR, Z.v, Z.sz, if_true, if_false, ite_true, ite_false, cond_true, cond_false, reduceCtorEq, forall_const, Nat.reduceAdd, Nat.reduceMul, Nat.reduceSub, Nat.reduceBEq, Nat.reduceEqDiff, dropTo, List.map_cons, List.map_nil, List.filter_cons, List.filter_nil]
      refine ⟨⟨by omega, by omega⟩, by omega, i + 1, ⟨by omega, by omega⟩, by omega, ?_⟩
      refine Weak.fr [0, 1] [] hx (by simp only [fr_length]) (by decide) ?_ ?_
      · simp only [LT, SimL, ne_eq, Nat.reduceLT, SimA, Sim, SimH, frz, hget, hhas, List.getElem?_cons_zero, List.getElem?_cons_succ, List.getElem?_nil, BEq.rfl, if_true, reduceCtorEq, Option.some.injEq, Nat.reduceEqDiff, if_false, List.contains_cons, List.contains_nil, V.ok, V.get, V.fget, V.fhas, Nat.reduceLeDiff, implies_true, Nat.reduceBEq, Int.cast_ofNat_Int, w2]
      · simp only [LT, SimL, ne_eq, Nat.reduceLT, SimA, Sim, SimH, frz, hget, hhas, List.getElem?_cons_zero, List.getElem?_cons_succ, List.getElem?_nil, BEq.rfl, if_true, reduceCtorEq, Option.some.injEq, Nat.reduceEqDiff, if_false, List.contains_cons, List.contains_nil, V.ok, V.get, V.fget, V.fhas, Nat.reduceLeDiff, implies_true, Nat.reduceBEq, Int.cast_ofNat_Int]
        intro j hj
        by_cases h1 : j = i
        · subst h1
          rw [if_pos rfl, if_pos (by omega)]
          obtain ⟨p, rfl⟩ : ∃ p, j = p + 1 := ⟨j - 1, by omega⟩
          rfl
        · rw [if_neg h1]
          by_cases h2 : j < i
          · rw [if_pos h2, if_pos (by omega)]
          · rw [if_neg h2, if_neg (by omega)]
    · have hge : ¬ (i : Int) ≤ 16 := by simpa using hge
      have hi17 : i = 17 := by omega
      subst hi17
      refine RetS.mk hx [] [] (.ar 32 17 (fun j => dg (nought j))) [] 0 (by decide) ?_ ?_ trivial ⟨rfl, rfl, rfl⟩
      · simp only [res, resP, LR, ↓step_conv, ex, Ro, RoD, OpD, epk, epochs, Mv.hx, idsOK, bs, wmask, LK.isW, LK.isA, LK.isP, step, num, X.ev, List.cons_append, List.nil_append, ne_eq, Nat.reduceLT, Int.reduceLE, Int.reduceLT, Int.cast_ofNat_Int, Nat.reducePow, Nat.reduceAnd, Nat.reduceOr, Nat.reduceShiftRight, BEq.rfl, Int.reduceToNat, vpick, vopt, optInt, isInt, vbuild, vbuildOK, vcaps, vcapsOK, elems, elemsOK, List.length_cons, List.length_nil, hget, hset, hdel, hhas, padd, V.ok, V.get, V.set, V.fget, V.fhas, V.fset, noR, Z.v, Z.sz, if_true, if_false, ite_true, ite_false, cond_true, cond_false, reduceCtorEq, forall_const, Nat.reduceAdd, Nat.reduceMul, Nat.reduceSub, Nat.reduceBEq, Nat.reduceEqDiff, dropTo, List.map_cons, List.map_nil, List.filter_cons, List.filter_nil]
      · simp only [res, resV, LR, ↓step_conv, ex, Ro, RoD, OpD, epk, epochs, Mv.hx, idsOK, bs, wmask, LK.isW, LK.isA, LK.isP, step, num, X.ev, List.cons_append, List.nil_append, ne_eq, Nat.reduceLT, Int.reduceLE, Int.reduceLT, Int.cast_ofNat_Int, Nat.reducePow, Nat.reduceAnd, Nat.reduceOr, Nat.reduceShiftRight, BEq.rfl, Int.reduceToNat, vpick, vopt, optInt, isInt, vbuild, vbuildOK, vcaps, vcapsOK, elems, elemsOK, List.length_cons, List.length_nil, hget, hset, hdel, hhas, padd, V.ok, V.get, V.set, V.fget, V.fhas, V.fset, noR, Z.v, Z.sz, if_true, if_false, ite_true, ite_false, cond_true, cond_false, reduceCtorEq, forall_const, Nat.reduceAdd, Nat.reduceMul, Nat.reduceSub, Nat.reduceBEq, Nat.reduceEqDiff, dropTo, List.map_cons, List.map_nil, List.filter_cons, List.filter_nil, LT, SimL, ne_eq, Nat.reduceLT, SimA, Sim, SimH, frz, hget, hhas, List.getElem?_cons_zero, List.getElem?_cons_succ, List.getElem?_nil, BEq.rfl, if_true, reduceCtorEq, Option.some.injEq, Nat.reduceEqDiff, if_false, List.contains_cons, List.contains_nil, V.ok, V.get, V.fget, V.fhas, Nat.reduceLeDiff, implies_true, Nat.reduceBEq, Int.cast_ofNat_Int]
        intro j hj
        rw [if_pos hj]

/-- Two results, three. -/
def tup2 (a b : V) : V := .tup (.fcons 0 a (.fcons 1 b .fnil))
def tup3 (a b c : V) : V := .tup (.fcons 0 a (.fcons 1 b (.fcons 2 c .fnil)))

theorem runs_Zero {M : Seat} (ok : OkM M) (h : Nat) (hh : h ≤ 16) :
    Runs M 197 [.int .i64 h] [] 0 (fun r H' k' => r = tup2 (dg (nought h)) .nili ∧ H' = [] ∧ k' = 0) := by
  refine runs_fr ok.k197 rfl fun x hx => ?_
  refine ex_sound 30 _ _ _ _ ?_
  simp only [f197, c197, LR, ↓step_conv, ex, Ro, RoD, OpD, epk, epochs, Mv.hx, idsOK, bs, wmask, LK.isW, LK.isA, LK.isP, step, num, X.ev, List.cons_append, List.nil_append, ne_eq, Nat.reduceLT, Int.reduceLE, Int.reduceLT, Int.cast_ofNat_Int, Nat.reducePow, Nat.reduceAnd, Nat.reduceOr, Nat.reduceShiftRight, BEq.rfl, Int.reduceToNat, vpick, vopt, optInt, isInt, vbuild, vbuildOK, vcaps, vcapsOK, elems, elemsOK, List.length_cons, List.length_nil, hget, hset, hdel, hhas, padd, V.ok, V.get, V.set, V.fget, V.fhas, V.fset, noR, Z.v, Z.sz, if_true, if_false, ite_true, ite_false, cond_true, cond_false, reduceCtorEq, forall_const, Nat.reduceAdd, Nat.reduceMul, Nat.reduceSub, Nat.reduceBEq, Nat.reduceEqDiff, dropTo, List.map_cons, List.map_nil, List.filter_cons, List.filter_nil]
  have h1 : decide ((h : Int) < 0) = false := by simp
  have h2 : decide ((16 : Int) < h) = false := by simp; omega
  simp only [h1, h2, LR, ↓step_conv, ex, Ro, RoD, OpD, epk, epochs, Mv.hx, idsOK, bs, wmask, LK.isW, LK.isA, LK.isP, step, num, X.ev, List.cons_append, List.nil_append, ne_eq, Nat.reduceLT, Int.reduceLE, Int.reduceLT, Int.cast_ofNat_Int, Nat.reducePow, Nat.reduceAnd, Nat.reduceOr, Nat.reduceShiftRight, BEq.rfl, Int.reduceToNat, vpick, vopt, optInt, isInt, vbuild, vbuildOK, vcaps, vcapsOK, elems, elemsOK, List.length_cons, List.length_nil, hget, hset, hdel, hhas, padd, V.ok, V.get, V.set, V.fget, V.fhas, V.fset, noR, Z.v, Z.sz, if_true, if_false, ite_true, ite_false, cond_true, cond_false, reduceCtorEq, forall_const, Nat.reduceAdd, Nat.reduceMul, Nat.reduceSub, Nat.reduceBEq, Nat.reduceEqDiff, dropTo, List.map_cons, List.map_nil, List.filter_cons, List.filter_nil]
  refine call_pure (runs_noughts ok) trivial rfl ?_
  simp only [LR, ↓step_conv, ex, Ro, RoD, OpD, epk, epochs, Mv.hx, idsOK, bs, wmask, LK.isW, LK.isA, LK.isP, step, num, X.ev, List.cons_append, List.nil_append, ne_eq, Nat.reduceLT, Int.reduceLE, Int.reduceLT, Int.cast_ofNat_Int, Nat.reducePow, Nat.reduceAnd, Nat.reduceOr, Nat.reduceShiftRight, BEq.rfl, Int.reduceToNat, vpick, vopt, optInt, isInt, vbuild, vbuildOK, vcaps, vcapsOK, elems, elemsOK, List.length_cons, List.length_nil, hget, hset, hdel, hhas, padd, V.ok, V.get, V.set, V.fget, V.fhas, V.fset, noR, Z.v, Z.sz, if_true, if_false, ite_true, ite_false, cond_true, cond_false, reduceCtorEq, forall_const, Nat.reduceAdd, Nat.reduceMul, Nat.reduceSub, Nat.reduceBEq, Nat.reduceEqDiff, dropTo, List.map_cons, List.map_nil, List.filter_cons, List.filter_nil]
  refine ⟨⟨by omega, by omega⟩, ?_⟩
  refine RetS.mk hx [] [] (tup2 (dg (nought h)) .nili) [] 0 (by decide) ?_ ?_ trivial ⟨rfl, rfl, rfl⟩
  · simp only [res, resPs, resP, tupP, resV, LR, ↓step_conv, ex, Ro, RoD, OpD, epk, epochs, Mv.hx, idsOK, bs, wmask, LK.isW, LK.isA, LK.isP, step, num, X.ev, List.cons_append, List.nil_append, ne_eq, Nat.reduceLT, Int.reduceLE, Int.reduceLT, Int.cast_ofNat_Int, Nat.reducePow, Nat.reduceAnd, Nat.reduceOr, Nat.reduceShiftRight, BEq.rfl, Int.reduceToNat, vpick, vopt, optInt, isInt, vbuild, vbuildOK, vcaps, vcapsOK, elems, elemsOK, List.length_cons, List.length_nil, hget, hset, hdel, hhas, padd, V.ok, V.get, V.set, V.fget, V.fhas, V.fset, noR, Z.v, Z.sz, if_true, if_false, ite_true, ite_false, cond_true, cond_false, reduceCtorEq, forall_const, Nat.reduceAdd, Nat.reduceMul, Nat.reduceSub, Nat.reduceBEq, Nat.reduceEqDiff, dropTo, List.map_cons, List.map_nil, List.filter_cons, List.filter_nil]
    rfl
  · simp only [res, resV, tupV, tup2, LR, ↓step_conv, ex, Ro, RoD, OpD, epk, epochs, Mv.hx, idsOK, bs, wmask, LK.isW, LK.isA, LK.isP, step, num, X.ev, List.cons_append, List.nil_append, ne_eq, Nat.reduceLT, Int.reduceLE, Int.reduceLT, Int.cast_ofNat_Int, Nat.reducePow, Nat.reduceAnd, Nat.reduceOr, Nat.reduceShiftRight, BEq.rfl, Int.reduceToNat, vpick, vopt, optInt, isInt, vbuild, vbuildOK, vcaps, vcapsOK, elems, elemsOK, List.length_cons, List.length_nil, hget, hset, hdel, hhas, padd, V.ok, V.get, V.set, V.fget, V.fhas, V.fset, noR, Z.v, Z.sz, if_true, if_false, ite_true, ite_false, cond_true, cond_false, reduceCtorEq, forall_const, Nat.reduceAdd, Nat.reduceMul, Nat.reduceSub, Nat.reduceBEq, Nat.reduceEqDiff, dropTo, List.map_cons, List.map_nil, List.filter_cons, List.filter_nil, LT, SimL, ne_eq, Nat.reduceLT, SimA, Sim, SimH, frz, hget, hhas, List.getElem?_cons_zero, List.getElem?_cons_succ, List.getElem?_nil, BEq.rfl, if_true, reduceCtorEq, Option.some.injEq, Nat.reduceEqDiff, if_false, List.contains_cons, List.contains_nil, V.ok, V.get, V.fget, V.fhas, Nat.reduceLeDiff, implies_true, Nat.reduceBEq, Int.cast_ofNat_Int, dg]
end Mv
