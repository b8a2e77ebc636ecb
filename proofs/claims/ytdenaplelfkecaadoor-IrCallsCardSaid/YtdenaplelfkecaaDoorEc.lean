/- The document's keccak: permute. -/
import Derived.Test.YtdenaplelfkecaaDoorEa
import Derived.Test.YtdenaplelfkecaaDoorDl
set_option linter.unusedSimpArgs false
set_option linter.unusedVariables false
namespace Mv
open Go
set_option maxRecDepth 20000
set_option maxHeartbeats 4000000
set_option linter.unusedSimpArgs false

def mq (L : List (BitVec 64)) (c : Nat) : Nat → BitVec 64
  | 0 => 0
  | y + 1 => mq L c y ^^^ L.getD (c + 5 * y) 0
theorem mq_5 (L : List (BitVec 64)) (c : Nat) : mq L c 5 = par L c := by
  simp [mq, par]
/-- So many of the first step's. -/
def bq (L : List (BitVec 64)) (x y j : Nat) : BitVec 64 := if j % 5 < x ∨ (j % 5 = x ∧ j / 5 < y) then thq L 5 j else 0
def cq (L : List (BitVec 64)) (x y j : Nat) : BitVec 64 :=
  if srcs.getD j 0 % 5 < x ∨ (srcs.getD j 0 % 5 = x ∧ srcs.getD j 0 / 5 < y) then rot (thq L 5 (srcs.getD j 0)) (trns.getD j 0) else 0
theorem src_at : ∀ x, x < 5 → ∀ y, y < 5 → ∀ j, j < 25 → (j = y + 5 * ((2 * x + 3 * y) % 5) ↔ srcs.getD j 0 = x + 5 * y) := by decide
theorem trn_at : ∀ j, j < 25 → trns.getD j 0 = tv 24 (srcs.getD j 0) := by decide
theorem tv_lt : ∀ j, j < 25 → tv 24 j < 64 := by decide
def aq (L C : List (BitVec 64)) (n j : Nat) : BitVec 64 := if j < n then chq C 5 j else L.getD j 0

theorem Wm : V.int .u64 18446744073709551615 = W (BitVec.allOnes 64) := rfl
abbrev prmQ (s : List (BitVec 64)) : V → Hp → Nat → Prop := fun r H' k' => r = .ar 1 25 (ws (perm s)) ∧ H' = [] ∧ k' = 0

theorem runs_permute {M : Seat} (ok : OkB M) (s : List (BitVec 64)) :
    Runs M 415 [.ar 1 25 (ws s), .lst 1 24 (ws rc), .lst 1 25 (fun j => .int .i64 (tv 24 j : Nat))] [] 0 (prmQ s) := by
  refine runs_fr ok.k415 rfl fun x hx => ?_
  refine ex_sound 30 _ _ _ _ ?_
  simp only [f415, c415, LQ, ↓step_conv, OpD, epk, epochs, Mv.hx, idsOK, bs, wmask, LK.isW, LK.isA, LK.isP, step, num, X.ev, List.cons_append, List.nil_append, ne_eq, Nat.reduceLT, Int.reduceLE, Int.reduceLT, Int.cast_ofNat_Int, Nat.reducePow, Nat.reduceAnd, Nat.reduceOr, Nat.reduceShiftRight, BEq.rfl, Int.reduceToNat, vpick, vopt, optInt, isInt, vbuild, vbuildOK, vcaps, vcapsOK, elems, elemsOK, List.length_cons, List.length_nil, hget, hset, hdel, hhas, padd, V.ok, V.get, V.set, V.fget, V.fhas, V.fset, noR, Z.v, Z.sz, if_true, if_false, ite_true, ite_false, cond_true, cond_false, reduceCtorEq, forall_const, Nat.reduceAdd, Nat.reduceMul, Nat.reduceSub, Nat.reduceBEq, Nat.reduceEqDiff, dropTo, List.map_cons, List.map_nil, List.filter_cons, List.filter_nil, Nat.reduceLeDiff, Nat.testBit, Nat.reduceBneDiff, bne_self_eq_false, Nat.reduceBNe, ↓reduceIte, eqP_nn, eqV_nn, eqP_in, eqV_in, eqP_pn, eqV_pn, eqP_mn, eqV_mn]
  refine loop_rule (σ := Nat) (fun i => i ≤ 24) (fun i => fr 146 [(1, .lst 1 24 (ws rc)), (2, .lst 1 25 (fun j => .int .i64 (tv 24 j : Nat))), (3, .ptr 0 []), (6, .ptr 1 []), (7, .int .i64 i)])
      (fun i => [(0, .ar 1 25 (ws (permN s i))), (1, .ar 1 25 (fun _ => W 0))]) (fun _ => 2) (fun i => 24 - i) 0 (by omega) ?_ ?_
  · refine Weak.fr [0, 16] [] hx (by simp only [fr_length]) (by decide) ?_ ?_
    · simp only [LT, SimL, ne_eq, Nat.reduceLT, SimA, Sim, SimH, frz, hget, hhas, List.getElem?_cons_zero, List.getElem?_cons_succ, List.getElem?_nil, BEq.rfl, if_true, reduceCtorEq, Option.some.injEq, Nat.reduceEqDiff, if_false, List.contains_cons, List.contains_nil, V.ok, V.get, V.fget, V.fhas, Nat.reduceLeDiff, implies_true, Nat.reduceBEq, Int.cast_ofNat_Int]
    · simp only [LT, SimL, ne_eq, Nat.reduceLT, SimA, Sim, SimH, frz, hget, hhas, List.getElem?_cons_zero, List.getElem?_cons_succ, List.getElem?_nil, BEq.rfl, if_true, reduceCtorEq, Option.some.injEq, Nat.reduceEqDiff, if_false, List.contains_cons, List.contains_nil, V.ok, V.get, V.fget, V.fhas, Nat.reduceLeDiff, implies_true, Nat.reduceBEq, Int.cast_ofNat_Int, W_0]
      exact fun _ _ => rfl
  · intro i hi
    by_cases h24 : i = 24
    · subst h24
      have d0 : decide (((24 : Nat) : Int) < 24) = false := rfl
      (refine ex_sound 30 _ _ _ _ ?_; simp (maxSteps := 2000000) only [d0, LQ, ↓step_conv, OpD, epk, epochs, Mv.hx, idsOK, bs, wmask, LK.isW, LK.isA, LK.isP, step, num, X.ev, List.cons_append, List.nil_append, ne_eq, Nat.reduceLT, Int.reduceLE, Int.reduceLT, Int.cast_ofNat_Int, Nat.reducePow, Nat.reduceAnd, Nat.reduceOr, Nat.reduceShiftRight, BEq.rfl, Int.reduceToNat, vpick, vopt, optInt, isInt, vbuild, vbuildOK, vcaps, vcapsOK, elems, elemsOK, List.length_cons, List.length_nil, hget, hset, hdel, hhas, padd, V.ok, V.get, V.set, V.fget, V.fhas, V.fset, noR, Z.v, Z.sz, if_true, if_false, ite_true, ite_false, cond_true, cond_false, reduceCtorEq, forall_const, Nat.reduceAdd, Nat.reduceMul, Nat.reduceSub, Nat.reduceBEq, Nat.reduceEqDiff, dropTo, List.map_cons, List.map_nil, List.filter_cons, List.filter_nil, Nat.reduceLeDiff, Nat.testBit, Nat.reduceBneDiff, bne_self_eq_false, Nat.reduceBNe, ↓reduceIte, eqP_nn, eqV_nn, eqP_in, eqV_in, eqP_pn, eqV_pn, eqP_mn, eqV_mn])
      refine RetS.mk hx [] [] (.ar 1 25 (ws (perm s))) [] 0 (by decide) ?_ ?_ trivial ⟨rfl, rfl, rfl⟩
      · simp only [res, resPs, resP, tupP, resV, LU, ↓step_conv, ex, Ro, RoD, OpD, epk, epochs, Mv.hx, idsOK, bs, wmask, LK.isW, LK.isA, LK.isP, step, num, X.ev, List.cons_append, List.nil_append, ne_eq, Nat.reduceLT, Int.reduceLE, Int.reduceLT, Int.cast_ofNat_Int, Nat.reducePow, Nat.reduceAnd, Nat.reduceOr, Nat.reduceShiftRight, BEq.rfl, Int.reduceToNat, vpick, vopt, optInt, isInt, vbuild, vbuildOK, vcaps, vcapsOK, elems, elemsOK, List.length_cons, List.length_nil, hget, hset, hdel, hhas, padd, V.ok, V.get, V.set, V.fget, V.fhas, V.fset, noR, Z.v, Z.sz, if_true, if_false, ite_true, ite_false, cond_true, cond_false, reduceCtorEq, forall_const, Nat.reduceAdd, Nat.reduceMul, Nat.reduceSub, Nat.reduceBEq, Nat.reduceEqDiff, dropTo, List.map_cons, List.map_nil, List.filter_cons, List.filter_nil]
      · simp only [res, resV, tupV, tup2, tup3, LU, ↓step_conv, ex, Ro, RoD, OpD, epk, epochs, Mv.hx, idsOK, bs, wmask, LK.isW, LK.isA, LK.isP, step, num, X.ev, List.cons_append, List.nil_append, ne_eq, Nat.reduceLT, Int.reduceLE, Int.reduceLT, Int.cast_ofNat_Int, Nat.reducePow, Nat.reduceAnd, Nat.reduceOr, Nat.reduceShiftRight, BEq.rfl, Int.reduceToNat, vpick, vopt, optInt, isInt, vbuild, vbuildOK, vcaps, vcapsOK, elems, elemsOK, List.length_cons, List.length_nil, hget, hset, hdel, hhas, padd, V.ok, V.get, V.set, V.fget, V.fhas, V.fset, noR, Z.v, Z.sz, if_true, if_false, ite_true, ite_false, cond_true, cond_false, reduceCtorEq, forall_const, Nat.reduceAdd, Nat.reduceMul, Nat.reduceSub, Nat.reduceBEq, Nat.reduceEqDiff, dropTo, List.map_cons, List.map_nil, List.filter_cons, List.filter_nil, LT, SimL, ne_eq, Nat.reduceLT, SimA, Sim, SimH, frz, hget, hhas, List.getElem?_cons_zero, List.getElem?_cons_succ, List.getElem?_nil, BEq.rfl, if_true, reduceCtorEq, Option.some.injEq, Nat.reduceEqDiff, if_false, List.contains_cons, List.contains_nil, V.ok, V.get, V.fget, V.fhas, Nat.reduceLeDiff, implies_true, Nat.reduceBEq, Int.cast_ofNat_Int, dg]
        exact fun _ _ => rfl
    have d0 : decide ((i : Int) < 24) = true := decide_eq_true (by omega)
    have wi : IntKind.i64.wrap ((i : Int) + 1) = ((i + 1 : Nat) : Int) := by rw [wrap_i64 (by omega)]; omega
    have hnext : permN s (i + 1) = rnd (permN s i) i := rfl
    generalize permN s i = L at hnext ⊢
    (refine ex_sound 30 _ _ _ _ ?_; simp (maxSteps := 2000000) only [d0, LQ, ↓step_conv, OpD, epk, epochs, Mv.hx, idsOK, bs, wmask, LK.isW, LK.isA, LK.isP, step, num, X.ev, List.cons_append, List.nil_append, ne_eq, Nat.reduceLT, Int.reduceLE, Int.reduceLT, Int.cast_ofNat_Int, Nat.reducePow, Nat.reduceAnd, Nat.reduceOr, Nat.reduceShiftRight, BEq.rfl, Int.reduceToNat, vpick, vopt, optInt, isInt, vbuild, vbuildOK, vcaps, vcapsOK, elems, elemsOK, List.length_cons, List.length_nil, hget, hset, hdel, hhas, padd, V.ok, V.get, V.set, V.fget, V.fhas, V.fset, noR, Z.v, Z.sz, if_true, if_false, ite_true, ite_false, cond_true, cond_false, reduceCtorEq, forall_const, Nat.reduceAdd, Nat.reduceMul, Nat.reduceSub, Nat.reduceBEq, Nat.reduceEqDiff, dropTo, List.map_cons, List.map_nil, List.filter_cons, List.filter_nil, Nat.reduceLeDiff, Nat.testBit, Nat.reduceBneDiff, bne_self_eq_false, Nat.reduceBNe, ↓reduceIte, eqP_nn, eqV_nn, eqP_in, eqV_in, eqP_pn, eqV_pn, eqP_mn, eqV_mn])
    refine loop_rule (σ := Nat) (fun x => x ≤ 5) (fun x => fr 146 [(1, .lst 1 24 (ws rc)), (2, .lst 1 25 (fun j => .int .i64 (tv 24 j : Nat))), (3, .ptr 0 []), (6, .ptr 1 []), (7, .int .i64 i), (8, .ptr 2 []), (9, .ptr 3 []), (10, .int .i64 x)])
      (fun x => [(0, .ar 1 25 (ws L)), (1, .ar 1 25 (fun _ => W 0)), (2, .ar 1 25 (fun j => W (bq L x 0 j))), (3, .ar 1 25 (fun _ => W 0))]) (fun _ => 4) (fun x => 5 - x) 0 (by omega) ?_ ?_
    · refine Weak.fr [0, 1, 34, 50] [] hx (by simp only [fr_length]) (by decide) ?_ ?_
      · simp only [LT, SimL, ne_eq, Nat.reduceLT, SimA, Sim, SimH, frz, hget, hhas, List.getElem?_cons_zero, List.getElem?_cons_succ, List.getElem?_nil, BEq.rfl, if_true, reduceCtorEq, Option.some.injEq, Nat.reduceEqDiff, if_false, List.contains_cons, List.contains_nil, V.ok, V.get, V.fget, V.fhas, Nat.reduceLeDiff, implies_true, Nat.reduceBEq, Int.cast_ofNat_Int]
      · simp only [LT, SimL, ne_eq, Nat.reduceLT, SimA, Sim, SimH, frz, hget, hhas, List.getElem?_cons_zero, List.getElem?_cons_succ, List.getElem?_nil, BEq.rfl, if_true, reduceCtorEq, Option.some.injEq, Nat.reduceEqDiff, if_false, List.contains_cons, List.contains_nil, V.ok, V.get, V.fget, V.fhas, Nat.reduceLeDiff, implies_true, Nat.reduceBEq, Int.cast_ofNat_Int, W_0]
        exact fun j _ => by rw [bq, if_neg (by omega)]
    · intro u hu
      by_cases h5 : u = 5
      · subst h5
        have d1 : decide (((5 : Nat) : Int) < 5) = false := rfl
        (refine ex_sound 30 _ _ _ _ ?_; simp (maxSteps := 2000000) only [d1, LQ, ↓step_conv, OpD, epk, epochs, Mv.hx, idsOK, bs, wmask, LK.isW, LK.isA, LK.isP, step, num, X.ev, List.cons_append, List.nil_append, ne_eq, Nat.reduceLT, Int.reduceLE, Int.reduceLT, Int.cast_ofNat_Int, Nat.reducePow, Nat.reduceAnd, Nat.reduceOr, Nat.reduceShiftRight, BEq.rfl, Int.reduceToNat, vpick, vopt, optInt, isInt, vbuild, vbuildOK, vcaps, vcapsOK, elems, elemsOK, List.length_cons, List.length_nil, hget, hset, hdel, hhas, padd, V.ok, V.get, V.set, V.fget, V.fhas, V.fset, noR, Z.v, Z.sz, if_true, if_false, ite_true, ite_false, cond_true, cond_false, reduceCtorEq, forall_const, Nat.reduceAdd, Nat.reduceMul, Nat.reduceSub, Nat.reduceBEq, Nat.reduceEqDiff, dropTo, List.map_cons, List.map_nil, List.filter_cons, List.filter_nil, Nat.reduceLeDiff, Nat.testBit, Nat.reduceBneDiff, bne_self_eq_false, Nat.reduceBNe, ↓reduceIte, eqP_nn, eqV_nn, eqP_in, eqV_in, eqP_pn, eqV_pn, eqP_mn, eqV_mn])
        have hbt : ∀ j, j < 25 → bq L 5 0 j = thq L 5 j := fun j hj => by rw [bq, if_pos (by omega)]
        refine loop_rule (σ := Nat) (fun u => u ≤ 5) (fun u => fr 146 [(1, .lst 1 24 (ws rc)), (2, .lst 1 25 (fun j => .int .i64 (tv 24 j : Nat))), (3, .ptr 0 []), (6, .ptr 1 []), (7, .int .i64 i), (8, .ptr 2 []), (9, .ptr 3 []), (15, .int .i64 u)])
          (fun u => [(0, .ar 1 25 (ws L)), (1, .ar 1 25 (fun _ => W 0)), (2, .ar 1 25 (fun j => W (thq L 5 j))), (3, .ar 1 25 (fun j => W (cq L u 0 j)))]) (fun _ => 4) (fun u => 5 - u) 0 (by omega) ?_ ?_
        · refine Weak.fr [0, 1, 2, 3] [] hx (by simp only [fr_length]) (by decide) ?_ ?_
          · simp only [LT, SimL, ne_eq, Nat.reduceLT, SimA, Sim, SimH, frz, hget, hhas, List.getElem?_cons_zero, List.getElem?_cons_succ, List.getElem?_nil, BEq.rfl, if_true, reduceCtorEq, Option.some.injEq, Nat.reduceEqDiff, if_false, List.contains_cons, List.contains_nil, V.ok, V.get, V.fget, V.fhas, Nat.reduceLeDiff, implies_true, Nat.reduceBEq, Int.cast_ofNat_Int]
          · simp only [LT, SimL, ne_eq, Nat.reduceLT, SimA, Sim, SimH, frz, hget, hhas, List.getElem?_cons_zero, List.getElem?_cons_succ, List.getElem?_nil, BEq.rfl, if_true, reduceCtorEq, Option.some.injEq, Nat.reduceEqDiff, if_false, List.contains_cons, List.contains_nil, V.ok, V.get, V.fget, V.fhas, Nat.reduceLeDiff, implies_true, Nat.reduceBEq, Int.cast_ofNat_Int]
            exact ⟨hbt, fun j _ => by rw [cq, if_neg (by omega)]⟩
        · intro u hu
          by_cases h5 : u = 5
          · subst h5
            have d1 : decide (((5 : Nat) : Int) < 5) = false := rfl
            (refine ex_sound 30 _ _ _ _ ?_; simp (maxSteps := 2000000) only [d1, LQ, ↓step_conv, OpD, epk, epochs, Mv.hx, idsOK, bs, wmask, LK.isW, LK.isA, LK.isP, step, num, X.ev, List.cons_append, List.nil_append, ne_eq, Nat.reduceLT, Int.reduceLE, Int.reduceLT, Int.cast_ofNat_Int, Nat.reducePow, Nat.reduceAnd, Nat.reduceOr, Nat.reduceShiftRight, BEq.rfl, Int.reduceToNat, vpick, vopt, optInt, isInt, vbuild, vbuildOK, vcaps, vcapsOK, elems, elemsOK, List.length_cons, List.length_nil, hget, hset, hdel, hhas, padd, V.ok, V.get, V.set, V.fget, V.fhas, V.fset, noR, Z.v, Z.sz, if_true, if_false, ite_true, ite_false, cond_true, cond_false, reduceCtorEq, forall_const, Nat.reduceAdd, Nat.reduceMul, Nat.reduceSub, Nat.reduceBEq, Nat.reduceEqDiff, dropTo, List.map_cons, List.map_nil, List.filter_cons, List.filter_nil, Nat.reduceLeDiff, Nat.testBit, Nat.reduceBneDiff, bne_self_eq_false, Nat.reduceBNe, ↓reduceIte, eqP_nn, eqV_nn, eqP_in, eqV_in, eqP_pn, eqV_pn, eqP_mn, eqV_mn])
            have hC : ∀ j, j < 25 → cq L 5 0 j = (rps (th L) 24).2.getD j 0 := fun j hj => by
              have hs := srcs_lt j hj
              rw [rps_at _ (th_len L) j hj, th_at _ _ hs, cq, if_pos (by omega)]
            generalize hCl : (rps (th L) 24).2 = C at hC
            refine loop_rule (σ := Nat) (fun y => y ≤ 5) (fun y => fr 146 [(1, .lst 1 24 (ws rc)), (2, .lst 1 25 (fun j => .int .i64 (tv 24 j : Nat))), (3, .ptr 0 []), (6, .ptr 1 []), (7, .int .i64 i), (8, .ptr 2 []), (9, .ptr 3 []), (17, .int .i64 y)])
              (fun y => [(0, .ar 1 25 (fun j => W (aq L C (5 * y) j))), (1, .ar 1 25 (fun _ => W 0)), (2, .ar 1 25 (fun j => W (thq L 5 j))), (3, .ar 1 25 (ws C))]) (fun _ => 4) (fun y => 5 - y) 0 (by omega) ?_ ?_
            · refine Weak.fr [0, 1, 2, 3] [] hx (by simp only [fr_length]) (by decide) ?_ ?_
              · simp only [LT, SimL, ne_eq, Nat.reduceLT, SimA, Sim, SimH, frz, hget, hhas, List.getElem?_cons_zero, List.getElem?_cons_succ, List.getElem?_nil, BEq.rfl, if_true, reduceCtorEq, Option.some.injEq, Nat.reduceEqDiff, if_false, List.contains_cons, List.contains_nil, V.ok, V.get, V.fget, V.fhas, Nat.reduceLeDiff, implies_true, Nat.reduceBEq, Int.cast_ofNat_Int]
              · simp only [LT, SimL, ne_eq, Nat.reduceLT, SimA, Sim, SimH, frz, hget, hhas, List.getElem?_cons_zero, List.getElem?_cons_succ, List.getElem?_nil, BEq.rfl, if_true, reduceCtorEq, Option.some.injEq, Nat.reduceEqDiff, if_false, List.contains_cons, List.contains_nil, V.ok, V.get, V.fget, V.fhas, Nat.reduceLeDiff, implies_true, Nat.reduceBEq, Int.cast_ofNat_Int]
                exact ⟨fun j _ => by rw [aq, if_neg (by omega)], hC⟩
            · intro y hy
              by_cases hy5 : y = 5
              · subst hy5
                have d2 : decide (((5 : Nat) : Int) < 5) = false := rfl
                (refine ex_sound 30 _ _ _ _ ?_; simp (maxSteps := 2000000) only [d2, wi, LQ, ↓step_conv, OpD, epk, epochs, Mv.hx, idsOK, bs, wmask, LK.isW, LK.isA, LK.isP, step, num, X.ev, List.cons_append, List.nil_append, ne_eq, Nat.reduceLT, Int.reduceLE, Int.reduceLT, Int.cast_ofNat_Int, Nat.reducePow, Nat.reduceAnd, Nat.reduceOr, Nat.reduceShiftRight, BEq.rfl, Int.reduceToNat, vpick, vopt, optInt, isInt, vbuild, vbuildOK, vcaps, vcapsOK, elems, elemsOK, List.length_cons, List.length_nil, hget, hset, hdel, hhas, padd, V.ok, V.get, V.set, V.fget, V.fhas, V.fset, noR, Z.v, Z.sz, if_true, if_false, ite_true, ite_false, cond_true, cond_false, reduceCtorEq, forall_const, Nat.reduceAdd, Nat.reduceMul, Nat.reduceSub, Nat.reduceBEq, Nat.reduceEqDiff, dropTo, List.map_cons, List.map_nil, List.filter_cons, List.filter_nil, Nat.reduceLeDiff, Nat.testBit, Nat.reduceBneDiff, bne_self_eq_false, Nat.reduceBNe, ↓reduceIte, eqP_nn, eqV_nn, eqP_in, eqV_in, eqP_pn, eqV_pn, eqP_mn, eqV_mn])
                refine ⟨by omega, i + 1, by omega, by omega, ?_⟩
                rw [hnext]
                refine Weak.fr [0, 1] [] hx (by simp only [fr_length]) (by decide) ?_ ?_
                · simp only [LT, SimL, ne_eq, Nat.reduceLT, SimA, Sim, SimH, frz, hget, hhas, List.getElem?_cons_zero, List.getElem?_cons_succ, List.getElem?_nil, BEq.rfl, if_true, reduceCtorEq, Option.some.injEq, Nat.reduceEqDiff, if_false, List.contains_cons, List.contains_nil, V.ok, V.get, V.fget, V.fhas, Nat.reduceLeDiff, implies_true, Nat.reduceBEq, Int.cast_ofNat_Int]
                · simp only [LT, SimL, ne_eq, Nat.reduceLT, SimA, Sim, SimH, frz, hget, hhas, List.getElem?_cons_zero, List.getElem?_cons_succ, List.getElem?_nil, BEq.rfl, if_true, reduceCtorEq, Option.some.injEq, Nat.reduceEqDiff, if_false, List.contains_cons, List.contains_nil, V.ok, V.get, V.fget, V.fhas, Nat.reduceLeDiff, implies_true, Nat.reduceBEq, Int.cast_ofNat_Int]
                  intro j hj
                  rw [rnd_at _ _ _ hj, hCl]
                  unfold aq
                  by_cases h0 : j = 0
                  · subst h0
                    rw [if_pos rfl, if_pos rfl, if_pos (by omega)]
                  · rw [if_neg h0, if_neg h0, if_pos (by omega)]
              · have d2 : decide ((y : Int) < 5) = true := decide_eq_true (by omega)
                have wy : IntKind.i64.wrap ((y : Int) + 1) = ((y + 1 : Nat) : Int) := by rw [wrap_i64 (by omega)]; omega
                (refine ex_sound 30 _ _ _ _ ?_; simp (maxSteps := 2000000) only [d2, LQ, ↓step_conv, OpD, epk, epochs, Mv.hx, idsOK, bs, wmask, LK.isW, LK.isA, LK.isP, step, num, X.ev, List.cons_append, List.nil_append, ne_eq, Nat.reduceLT, Int.reduceLE, Int.reduceLT, Int.cast_ofNat_Int, Nat.reducePow, Nat.reduceAnd, Nat.reduceOr, Nat.reduceShiftRight, BEq.rfl, Int.reduceToNat, vpick, vopt, optInt, isInt, vbuild, vbuildOK, vcaps, vcapsOK, elems, elemsOK, List.length_cons, List.length_nil, hget, hset, hdel, hhas, padd, V.ok, V.get, V.set, V.fget, V.fhas, V.fset, noR, Z.v, Z.sz, if_true, if_false, ite_true, ite_false, cond_true, cond_false, reduceCtorEq, forall_const, Nat.reduceAdd, Nat.reduceMul, Nat.reduceSub, Nat.reduceBEq, Nat.reduceEqDiff, dropTo, List.map_cons, List.map_nil, List.filter_cons, List.filter_nil, Nat.reduceLeDiff, Nat.testBit, Nat.reduceBneDiff, bne_self_eq_false, Nat.reduceBNe, ↓reduceIte, eqP_nn, eqV_nn, eqP_in, eqV_in, eqP_pn, eqV_pn, eqP_mn, eqV_mn])
                refine loop_rule (σ := Nat) (fun u => u ≤ 5) (fun u => fr 146 [(1, .lst 1 24 (ws rc)), (2, .lst 1 25 (fun j => .int .i64 (tv 24 j : Nat))), (3, .ptr 0 []), (6, .ptr 1 []), (7, .int .i64 i), (8, .ptr 2 []), (9, .ptr 3 []), (17, .int .i64 y), (18, .int .i64 u)])
                  (fun u => [(0, .ar 1 25 (fun j => W (aq L C (5 * y + u) j))), (1, .ar 1 25 (fun _ => W 0)), (2, .ar 1 25 (fun j => W (thq L 5 j))), (3, .ar 1 25 (ws C))]) (fun _ => 4) (fun u => 5 - u) 0 (by omega) ?_ ?_
                · refine Weak.fr [0, 1, 2, 3] [] hx (by simp only [fr_length]) (by decide) ?_ ?_
                  · simp only [LT, SimL, ne_eq, Nat.reduceLT, SimA, Sim, SimH, frz, hget, hhas, List.getElem?_cons_zero, List.getElem?_cons_succ, List.getElem?_nil, BEq.rfl, if_true, reduceCtorEq, Option.some.injEq, Nat.reduceEqDiff, if_false, List.contains_cons, List.contains_nil, V.ok, V.get, V.fget, V.fhas, Nat.reduceLeDiff, implies_true, Nat.reduceBEq, Int.cast_ofNat_Int]
                  · simp only [LT, SimL, ne_eq, Nat.reduceLT, SimA, Sim, SimH, frz, hget, hhas, List.getElem?_cons_zero, List.getElem?_cons_succ, List.getElem?_nil, BEq.rfl, if_true, reduceCtorEq, Option.some.injEq, Nat.reduceEqDiff, if_false, List.contains_cons, List.contains_nil, V.ok, V.get, V.fget, V.fhas, Nat.reduceLeDiff, implies_true, Nat.reduceBEq, Int.cast_ofNat_Int]
                    exact fun _ _ => rfl
                · intro u hu
                  by_cases hu5 : u = 5
                  · subst hu5
                    have d3 : decide (((5 : Nat) : Int) < 5) = false := rfl
                    (refine ex_sound 30 _ _ _ _ ?_; simp (maxSteps := 2000000) only [d3, wy, LQ, ↓step_conv, OpD, epk, epochs, Mv.hx, idsOK, bs, wmask, LK.isW, LK.isA, LK.isP, step, num, X.ev, List.cons_append, List.nil_append, ne_eq, Nat.reduceLT, Int.reduceLE, Int.reduceLT, Int.cast_ofNat_Int, Nat.reducePow, Nat.reduceAnd, Nat.reduceOr, Nat.reduceShiftRight, BEq.rfl, Int.reduceToNat, vpick, vopt, optInt, isInt, vbuild, vbuildOK, vcaps, vcapsOK, elems, elemsOK, List.length_cons, List.length_nil, hget, hset, hdel, hhas, padd, V.ok, V.get, V.set, V.fget, V.fhas, V.fset, noR, Z.v, Z.sz, if_true, if_false, ite_true, ite_false, cond_true, cond_false, reduceCtorEq, forall_const, Nat.reduceAdd, Nat.reduceMul, Nat.reduceSub, Nat.reduceBEq, Nat.reduceEqDiff, dropTo, List.map_cons, List.map_nil, List.filter_cons, List.filter_nil, Nat.reduceLeDiff, Nat.testBit, Nat.reduceBneDiff, bne_self_eq_false, Nat.reduceBNe, ↓reduceIte, eqP_nn, eqV_nn, eqP_in, eqV_in, eqP_pn, eqV_pn, eqP_mn, eqV_mn])
                    refine ⟨y + 1, by omega, by omega, ?_⟩
                    refine Weak.fr [0, 1, 2, 3] [] hx (by simp only [fr_length]) (by decide) ?_ ?_
                    · simp only [LT, SimL, ne_eq, Nat.reduceLT, SimA, Sim, SimH, frz, hget, hhas, List.getElem?_cons_zero, List.getElem?_cons_succ, List.getElem?_nil, BEq.rfl, if_true, reduceCtorEq, Option.some.injEq, Nat.reduceEqDiff, if_false, List.contains_cons, List.contains_nil, V.ok, V.get, V.fget, V.fhas, Nat.reduceLeDiff, implies_true, Nat.reduceBEq, Int.cast_ofNat_Int]
                    · simp only [LT, SimL, ne_eq, Nat.reduceLT, SimA, Sim, SimH, frz, hget, hhas, List.getElem?_cons_zero, List.getElem?_cons_succ, List.getElem?_nil, BEq.rfl, if_true, reduceCtorEq, Option.some.injEq, Nat.reduceEqDiff, if_false, List.contains_cons, List.contains_nil, V.ok, V.get, V.fget, V.fhas, Nat.reduceLeDiff, implies_true, Nat.reduceBEq, Int.cast_ofNat_Int]
                      exact fun _ _ => rfl
                  · have d3 : decide ((u : Int) < 5) = true := decide_eq_true (by omega)
                    have w1 : IntKind.i64.wrap ((u : Int) + 1) = ((u + 1 : Nat) : Int) := by rw [wrap_i64 (by omega)]; omega
                    have w2 : IntKind.i64.wrap (5 * (y : Int)) = ((5 * y : Nat) : Int) := by rw [wrap_i64 (by omega)]; omega
                    have w3 : IntKind.i64.wrap ((u : Int) + ((5 * y : Nat) : Int)) = ((u + 5 * y : Nat) : Int) := by rw [wrap_i64 (by omega)]; omega
                    have w4 : ((u + 1 : Nat) : Int).tmod 5 = (((u + 1) % 5 : Nat) : Int) := by rw [Int.tmod_eq_emod_of_nonneg (by omega)]; omega
                    have w5 : IntKind.i64.wrap ((((u + 1) % 5 : Nat) : Int) + ((5 * y : Nat) : Int)) = (((u + 1) % 5 + 5 * y : Nat) : Int) := by rw [wrap_i64 (by omega)]; omega
                    have w6 : IntKind.i64.wrap ((u : Int) + 2) = ((u + 2 : Nat) : Int) := by rw [wrap_i64 (by omega)]; omega
                    have w7 : ((u + 2 : Nat) : Int).tmod 5 = (((u + 2) % 5 : Nat) : Int) := by rw [Int.tmod_eq_emod_of_nonneg (by omega)]; omega
                    have w8 : IntKind.i64.wrap ((((u + 2) % 5 : Nat) : Int) + ((5 * y : Nat) : Int)) = (((u + 2) % 5 + 5 * y : Nat) : Int) := by rw [wrap_i64 (by omega)]; omega
                    (refine ex_sound 30 _ _ _ _ ?_; simp (maxSteps := 2000000) only [Wm, d3, w1, w2, w3, w4, w5, w6, w7, w8, LQ, ↓step_conv, OpD, epk, epochs, Mv.hx, idsOK, bs, wmask, LK.isW, LK.isA, LK.isP, step, num, X.ev, List.cons_append, List.nil_append, ne_eq, Nat.reduceLT, Int.reduceLE, Int.reduceLT, Int.cast_ofNat_Int, Nat.reducePow, Nat.reduceAnd, Nat.reduceOr, Nat.reduceShiftRight, BEq.rfl, Int.reduceToNat, vpick, vopt, optInt, isInt, vbuild, vbuildOK, vcaps, vcapsOK, elems, elemsOK, List.length_cons, List.length_nil, hget, hset, hdel, hhas, padd, V.ok, V.get, V.set, V.fget, V.fhas, V.fset, noR, Z.v, Z.sz, if_true, if_false, ite_true, ite_false, cond_true, cond_false, reduceCtorEq, forall_const, Nat.reduceAdd, Nat.reduceMul, Nat.reduceSub, Nat.reduceBEq, Nat.reduceEqDiff, dropTo, List.map_cons, List.map_nil, List.filter_cons, List.filter_nil, Nat.reduceLeDiff, Nat.testBit, Nat.reduceBneDiff, bne_self_eq_false, Nat.reduceBNe, ↓reduceIte, eqP_nn, eqV_nn, eqP_in, eqV_in, eqP_pn, eqV_pn, eqP_mn, eqV_mn])
                    refine ⟨by omega, by omega, by omega, by omega, by omega, by omega, by omega, by omega, by omega, by omega, by omega, by omega, by omega, u + 1, by omega, by omega, ?_⟩
                    refine Weak.fr [0, 1, 2, 3] [] hx (by simp only [fr_length]) (by decide) ?_ ?_
                    · simp only [LT, SimL, ne_eq, Nat.reduceLT, SimA, Sim, SimH, frz, hget, hhas, List.getElem?_cons_zero, List.getElem?_cons_succ, List.getElem?_nil, BEq.rfl, if_true, reduceCtorEq, Option.some.injEq, Nat.reduceEqDiff, if_false, List.contains_cons, List.contains_nil, V.ok, V.get, V.fget, V.fhas, Nat.reduceLeDiff, implies_true, Nat.reduceBEq, Int.cast_ofNat_Int]
                    · simp only [LT, SimL, ne_eq, Nat.reduceLT, SimA, Sim, SimH, frz, hget, hhas, List.getElem?_cons_zero, List.getElem?_cons_succ, List.getElem?_nil, BEq.rfl, if_true, reduceCtorEq, Option.some.injEq, Nat.reduceEqDiff, if_false, List.contains_cons, List.contains_nil, V.ok, V.get, V.fget, V.fhas, Nat.reduceLeDiff, implies_true, Nat.reduceBEq, Int.cast_ofNat_Int]
                      intro j hj
                      by_cases h1 : j = u + 5 * y
                      · subst h1
                        have e1 : (u + 5 * y) / 5 = y := by omega
                        have e2 : (u + 5 * y + 1) % 5 = (u + 1) % 5 := by omega
                        have e3 : (u + 5 * y + 2) % 5 = (u + 2) % 5 := by omega
                        rw [if_pos rfl, aq, if_pos (by omega), chq, if_pos (by omega), e1, e2, e3, BitVec.xor_allOnes, Nat.add_comm (5 * y), Nat.add_comm (5 * y)]
                      · rw [if_neg h1]
                        unfold aq
                        by_cases h2 : j < 5 * y + u
                        · rw [if_pos h2, if_pos (by omega)]
                        · rw [if_neg h2, if_neg (by omega)]
          · have d1 : decide ((u : Int) < 5) = true := decide_eq_true (by omega)
            have wu : IntKind.i64.wrap ((u : Int) + 1) = ((u + 1 : Nat) : Int) := by rw [wrap_i64 (by omega)]; omega
            (refine ex_sound 30 _ _ _ _ ?_; simp (maxSteps := 2000000) only [d1, LQ, ↓step_conv, OpD, epk, epochs, Mv.hx, idsOK, bs, wmask, LK.isW, LK.isA, LK.isP, step, num, X.ev, List.cons_append, List.nil_append, ne_eq, Nat.reduceLT, Int.reduceLE, Int.reduceLT, Int.cast_ofNat_Int, Nat.reducePow, Nat.reduceAnd, Nat.reduceOr, Nat.reduceShiftRight, BEq.rfl, Int.reduceToNat, vpick, vopt, optInt, isInt, vbuild, vbuildOK, vcaps, vcapsOK, elems, elemsOK, List.length_cons, List.length_nil, hget, hset, hdel, hhas, padd, V.ok, V.get, V.set, V.fget, V.fhas, V.fset, noR, Z.v, Z.sz, if_true, if_false, ite_true, ite_false, cond_true, cond_false, reduceCtorEq, forall_const, Nat.reduceAdd, Nat.reduceMul, Nat.reduceSub, Nat.reduceBEq, Nat.reduceEqDiff, dropTo, List.map_cons, List.map_nil, List.filter_cons, List.filter_nil, Nat.reduceLeDiff, Nat.testBit, Nat.reduceBneDiff, bne_self_eq_false, Nat.reduceBNe, ↓reduceIte, eqP_nn, eqV_nn, eqP_in, eqV_in, eqP_pn, eqV_pn, eqP_mn, eqV_mn])
            refine loop_rule (σ := Nat) (fun y => y ≤ 5) (fun y => fr 146 [(1, .lst 1 24 (ws rc)), (2, .lst 1 25 (fun j => .int .i64 (tv 24 j : Nat))), (3, .ptr 0 []), (6, .ptr 1 []), (7, .int .i64 i), (8, .ptr 2 []), (9, .ptr 3 []), (15, .int .i64 u), (16, .int .i64 y)])
              (fun y => [(0, .ar 1 25 (ws L)), (1, .ar 1 25 (fun _ => W 0)), (2, .ar 1 25 (fun j => W (thq L 5 j))), (3, .ar 1 25 (fun j => W (cq L u y j)))]) (fun _ => 4) (fun y => 5 - y) 0 (by omega) ?_ ?_
            · refine Weak.fr [0, 1, 2, 3] [] hx (by simp only [fr_length]) (by decide) ?_ ?_
              · simp only [LT, SimL, ne_eq, Nat.reduceLT, SimA, Sim, SimH, frz, hget, hhas, List.getElem?_cons_zero, List.getElem?_cons_succ, List.getElem?_nil, BEq.rfl, if_true, reduceCtorEq, Option.some.injEq, Nat.reduceEqDiff, if_false, List.contains_cons, List.contains_nil, V.ok, V.get, V.fget, V.fhas, Nat.reduceLeDiff, implies_true, Nat.reduceBEq, Int.cast_ofNat_Int]
              · simp only [LT, SimL, ne_eq, Nat.reduceLT, SimA, Sim, SimH, frz, hget, hhas, List.getElem?_cons_zero, List.getElem?_cons_succ, List.getElem?_nil, BEq.rfl, if_true, reduceCtorEq, Option.some.injEq, Nat.reduceEqDiff, if_false, List.contains_cons, List.contains_nil, V.ok, V.get, V.fget, V.fhas, Nat.reduceLeDiff, implies_true, Nat.reduceBEq, Int.cast_ofNat_Int]
            · intro y hy
              by_cases hy5 : y = 5
              · subst hy5
                have d2 : decide (((5 : Nat) : Int) < 5) = false := rfl
                (refine ex_sound 30 _ _ _ _ ?_; simp (maxSteps := 2000000) only [d2, wu, LQ, ↓step_conv, OpD, epk, epochs, Mv.hx, idsOK, bs, wmask, LK.isW, LK.isA, LK.isP, step, num, X.ev, List.cons_append, List.nil_append, ne_eq, Nat.reduceLT, Int.reduceLE, Int.reduceLT, Int.cast_ofNat_Int, Nat.reducePow, Nat.reduceAnd, Nat.reduceOr, Nat.reduceShiftRight, BEq.rfl, Int.reduceToNat, vpick, vopt, optInt, isInt, vbuild, vbuildOK, vcaps, vcapsOK, elems, elemsOK, List.length_cons, List.length_nil, hget, hset, hdel, hhas, padd, V.ok, V.get, V.set, V.fget, V.fhas, V.fset, noR, Z.v, Z.sz, if_true, if_false, ite_true, ite_false, cond_true, cond_false, reduceCtorEq, forall_const, Nat.reduceAdd, Nat.reduceMul, Nat.reduceSub, Nat.reduceBEq, Nat.reduceEqDiff, dropTo, List.map_cons, List.map_nil, List.filter_cons, List.filter_nil, Nat.reduceLeDiff, Nat.testBit, Nat.reduceBneDiff, bne_self_eq_false, Nat.reduceBNe, ↓reduceIte, eqP_nn, eqV_nn, eqP_in, eqV_in, eqP_pn, eqV_pn, eqP_mn, eqV_mn])
                refine ⟨u + 1, by omega, by omega, ?_⟩
                refine Weak.fr [0, 1, 2, 3] [] hx (by simp only [fr_length]) (by decide) ?_ ?_
                · simp only [LT, SimL, ne_eq, Nat.reduceLT, SimA, Sim, SimH, frz, hget, hhas, List.getElem?_cons_zero, List.getElem?_cons_succ, List.getElem?_nil, BEq.rfl, if_true, reduceCtorEq, Option.some.injEq, Nat.reduceEqDiff, if_false, List.contains_cons, List.contains_nil, V.ok, V.get, V.fget, V.fhas, Nat.reduceLeDiff, implies_true, Nat.reduceBEq, Int.cast_ofNat_Int]
                · simp only [LT, SimL, ne_eq, Nat.reduceLT, SimA, Sim, SimH, frz, hget, hhas, List.getElem?_cons_zero, List.getElem?_cons_succ, List.getElem?_nil, BEq.rfl, if_true, reduceCtorEq, Option.some.injEq, Nat.reduceEqDiff, if_false, List.contains_cons, List.contains_nil, V.ok, V.get, V.fget, V.fhas, Nat.reduceLeDiff, implies_true, Nat.reduceBEq, Int.cast_ofNat_Int]
                  intro j hj
                  have hs := srcs_lt j hj
                  unfold cq
                  by_cases h1 : srcs.getD j 0 % 5 < u ∨ (srcs.getD j 0 % 5 = u ∧ srcs.getD j 0 / 5 < 5)
                  · rw [if_pos h1, if_pos (by omega)]
                  · rw [if_neg h1, if_neg (by omega)]
              · have d2 : decide ((y : Int) < 5) = true := decide_eq_true (by omega)
                have w1 : IntKind.i64.wrap ((y : Int) + 1) = ((y + 1 : Nat) : Int) := by rw [wrap_i64 (by omega)]; omega
                have w2 : IntKind.i64.wrap (5 * (y : Int)) = ((5 * y : Nat) : Int) := by rw [wrap_i64 (by omega)]; omega
                have w3 : IntKind.i64.wrap ((u : Int) + ((5 * y : Nat) : Int)) = ((u + 5 * y : Nat) : Int) := by rw [wrap_i64 (by omega)]; omega
                have w4 : IntKind.i64.wrap (2 * (u : Int)) = ((2 * u : Nat) : Int) := by rw [wrap_i64 (by omega)]; omega
                have w5 : IntKind.i64.wrap (3 * (y : Int)) = ((3 * y : Nat) : Int) := by rw [wrap_i64 (by omega)]; omega
                have w6 : IntKind.i64.wrap (((2 * u : Nat) : Int) + ((3 * y : Nat) : Int)) = ((2 * u + 3 * y : Nat) : Int) := by rw [wrap_i64 (by omega)]; omega
                have w7 : ((2 * u + 3 * y : Nat) : Int).tmod 5 = (((2 * u + 3 * y) % 5 : Nat) : Int) := by rw [Int.tmod_eq_emod_of_nonneg (by omega)]; omega
                have w8 : IntKind.i64.wrap (5 * (((2 * u + 3 * y) % 5 : Nat) : Int)) = ((5 * ((2 * u + 3 * y) % 5) : Nat) : Int) := by rw [wrap_i64 (by omega)]; omega
                have w9 : IntKind.i64.wrap ((y : Int) + ((5 * ((2 * u + 3 * y) % 5) : Nat) : Int)) = ((y + 5 * ((2 * u + 3 * y) % 5) : Nat) : Int) := by rw [wrap_i64 (by omega)]; omega
                (refine ex_sound 30 _ _ _ _ ?_; simp (maxSteps := 2000000) only [d2, w1, w2, w3, w4, w5, w6, w7, w8, w9, LQ, ↓step_conv, OpD, epk, epochs, Mv.hx, idsOK, bs, wmask, LK.isW, LK.isA, LK.isP, step, num, X.ev, List.cons_append, List.nil_append, ne_eq, Nat.reduceLT, Int.reduceLE, Int.reduceLT, Int.cast_ofNat_Int, Nat.reducePow, Nat.reduceAnd, Nat.reduceOr, Nat.reduceShiftRight, BEq.rfl, Int.reduceToNat, vpick, vopt, optInt, isInt, vbuild, vbuildOK, vcaps, vcapsOK, elems, elemsOK, List.length_cons, List.length_nil, hget, hset, hdel, hhas, padd, V.ok, V.get, V.set, V.fget, V.fhas, V.fset, noR, Z.v, Z.sz, if_true, if_false, ite_true, ite_false, cond_true, cond_false, reduceCtorEq, forall_const, Nat.reduceAdd, Nat.reduceMul, Nat.reduceSub, Nat.reduceBEq, Nat.reduceEqDiff, dropTo, List.map_cons, List.map_nil, List.filter_cons, List.filter_nil, Nat.reduceLeDiff, Nat.testBit, Nat.reduceBneDiff, bne_self_eq_false, Nat.reduceBNe, ↓reduceIte, eqP_nn, eqV_nn, eqP_in, eqV_in, eqP_pn, eqV_pn, eqP_mn, eqV_mn])
                refine ⟨by omega, by omega, by omega, by omega, _, _, call_pure (runs_left ok _ _ (tv_lt (u + 5 * y) (by omega))) ⟨rfl, rfl, trivial⟩ rfl ⟨rfl, rfl⟩, ?_⟩
                simp only [LQ, ↓step_conv, OpD, epk, epochs, Mv.hx, idsOK, bs, wmask, LK.isW, LK.isA, LK.isP, step, num, X.ev, List.cons_append, List.nil_append, ne_eq, Nat.reduceLT, Int.reduceLE, Int.reduceLT, Int.cast_ofNat_Int, Nat.reducePow, Nat.reduceAnd, Nat.reduceOr, Nat.reduceShiftRight, BEq.rfl, Int.reduceToNat, vpick, vopt, optInt, isInt, vbuild, vbuildOK, vcaps, vcapsOK, elems, elemsOK, List.length_cons, List.length_nil, hget, hset, hdel, hhas, padd, V.ok, V.get, V.set, V.fget, V.fhas, V.fset, noR, Z.v, Z.sz, if_true, if_false, ite_true, ite_false, cond_true, cond_false, reduceCtorEq, forall_const, Nat.reduceAdd, Nat.reduceMul, Nat.reduceSub, Nat.reduceBEq, Nat.reduceEqDiff, dropTo, List.map_cons, List.map_nil, List.filter_cons, List.filter_nil, Nat.reduceLeDiff, Nat.testBit, Nat.reduceBneDiff, bne_self_eq_false, Nat.reduceBNe, ↓reduceIte, eqP_nn, eqV_nn, eqP_in, eqV_in, eqP_pn, eqV_pn, eqP_mn, eqV_mn]
                refine ⟨by omega, by omega, by omega, y + 1, by omega, by omega, ?_⟩
                refine Weak.fr [0, 1, 2, 3] [] hx (by simp only [fr_length]) (by decide) ?_ ?_
                · simp only [LT, SimL, ne_eq, Nat.reduceLT, SimA, Sim, SimH, frz, hget, hhas, List.getElem?_cons_zero, List.getElem?_cons_succ, List.getElem?_nil, BEq.rfl, if_true, reduceCtorEq, Option.some.injEq, Nat.reduceEqDiff, if_false, List.contains_cons, List.contains_nil, V.ok, V.get, V.fget, V.fhas, Nat.reduceLeDiff, implies_true, Nat.reduceBEq, Int.cast_ofNat_Int]
                · simp only [LT, SimL, ne_eq, Nat.reduceLT, SimA, Sim, SimH, frz, hget, hhas, List.getElem?_cons_zero, List.getElem?_cons_succ, List.getElem?_nil, BEq.rfl, if_true, reduceCtorEq, Option.some.injEq, Nat.reduceEqDiff, if_false, List.contains_cons, List.contains_nil, V.ok, V.get, V.fget, V.fhas, Nat.reduceLeDiff, implies_true, Nat.reduceBEq, Int.cast_ofNat_Int]
                  intro j hj
                  have hs := srcs_lt j hj
                  have hsa := src_at u (by omega) y (by omega) j hj
                  by_cases h1 : j = y + 5 * ((2 * u + 3 * y) % 5)
                  · have h2 := hsa.mp h1
                    rw [if_pos h1, cq, if_pos (by omega), trn_at j hj, h2]
                  · have h2 : srcs.getD j 0 ≠ u + 5 * y := fun h => h1 (hsa.mpr h)
                    rw [if_neg h1]
                    unfold cq
                    by_cases h3 : srcs.getD j 0 % 5 < u ∨ (srcs.getD j 0 % 5 = u ∧ srcs.getD j 0 / 5 < y)
                    · rw [if_pos h3, if_pos (by omega)]
                    · rw [if_neg h3, if_neg (by omega)]
      · have d1 : decide ((u : Int) < 5) = true := decide_eq_true (by omega)
        have wu : IntKind.i64.wrap ((u : Int) + 1) = ((u + 1 : Nat) : Int) := by rw [wrap_i64 (by omega)]; omega
        (refine ex_sound 30 _ _ _ _ ?_; simp (maxSteps := 2000000) only [d1, LQ, ↓step_conv, OpD, epk, epochs, Mv.hx, idsOK, bs, wmask, LK.isW, LK.isA, LK.isP, step, num, X.ev, List.cons_append, List.nil_append, ne_eq, Nat.reduceLT, Int.reduceLE, Int.reduceLT, Int.cast_ofNat_Int, Nat.reducePow, Nat.reduceAnd, Nat.reduceOr, Nat.reduceShiftRight, BEq.rfl, Int.reduceToNat, vpick, vopt, optInt, isInt, vbuild, vbuildOK, vcaps, vcapsOK, elems, elemsOK, List.length_cons, List.length_nil, hget, hset, hdel, hhas, padd, V.ok, V.get, V.set, V.fget, V.fhas, V.fset, noR, Z.v, Z.sz, if_true, if_false, ite_true, ite_false, cond_true, cond_false, reduceCtorEq, forall_const, Nat.reduceAdd, Nat.reduceMul, Nat.reduceSub, Nat.reduceBEq, Nat.reduceEqDiff, dropTo, List.map_cons, List.map_nil, List.filter_cons, List.filter_nil, Nat.reduceLeDiff, Nat.testBit, Nat.reduceBneDiff, bne_self_eq_false, Nat.reduceBNe, ↓reduceIte, eqP_nn, eqV_nn, eqP_in, eqV_in, eqP_pn, eqV_pn, eqP_mn, eqV_mn])
        refine loop_rule (σ := Nat) (fun y => y ≤ 5) (fun y => fr 146 [(1, .lst 1 24 (ws rc)), (2, .lst 1 25 (fun j => .int .i64 (tv 24 j : Nat))), (3, .ptr 0 []), (6, .ptr 1 []), (7, .int .i64 i), (8, .ptr 2 []), (9, .ptr 3 []), (10, .int .i64 u), (11, W (mq L ((u + 4) % 5) y)), (12, W (mq L ((u + 1) % 5) y)), (13, .int .i64 (5 * y : Nat))])
          (fun y => [(0, .ar 1 25 (ws L)), (1, .ar 1 25 (fun _ => W 0)), (2, .ar 1 25 (fun j => W (bq L u 0 j))), (3, .ar 1 25 (fun _ => W 0))]) (fun _ => 4) (fun y => 5 - y) 0 (by omega) ?_ ?_
        · refine Weak.fr [0, 1, 2, 3] [] hx (by simp only [fr_length]) (by decide) ?_ ?_
          · simp only [LT, SimL, ne_eq, Nat.reduceLT, SimA, Sim, SimH, frz, hget, hhas, List.getElem?_cons_zero, List.getElem?_cons_succ, List.getElem?_nil, BEq.rfl, if_true, reduceCtorEq, Option.some.injEq, Nat.reduceEqDiff, if_false, List.contains_cons, List.contains_nil, V.ok, V.get, V.fget, V.fhas, Nat.reduceLeDiff, implies_true, Nat.reduceBEq, Int.cast_ofNat_Int, W_0, mq]
            rfl
          · simp only [LT, SimL, ne_eq, Nat.reduceLT, SimA, Sim, SimH, frz, hget, hhas, List.getElem?_cons_zero, List.getElem?_cons_succ, List.getElem?_nil, BEq.rfl, if_true, reduceCtorEq, Option.some.injEq, Nat.reduceEqDiff, if_false, List.contains_cons, List.contains_nil, V.ok, V.get, V.fget, V.fhas, Nat.reduceLeDiff, implies_true, Nat.reduceBEq, Int.cast_ofNat_Int]
        · intro y hy
          by_cases hy5 : y = 5
          · subst hy5
            have d2 : decide (((5 * 5 : Nat) : Int) < 25) = false := rfl
            (refine ex_sound 30 _ _ _ _ ?_; simp (maxSteps := 2000000) only [d2, LQ, ↓step_conv, OpD, epk, epochs, Mv.hx, idsOK, bs, wmask, LK.isW, LK.isA, LK.isP, step, num, X.ev, List.cons_append, List.nil_append, ne_eq, Nat.reduceLT, Int.reduceLE, Int.reduceLT, Int.cast_ofNat_Int, Nat.reducePow, Nat.reduceAnd, Nat.reduceOr, Nat.reduceShiftRight, BEq.rfl, Int.reduceToNat, vpick, vopt, optInt, isInt, vbuild, vbuildOK, vcaps, vcapsOK, elems, elemsOK, List.length_cons, List.length_nil, hget, hset, hdel, hhas, padd, V.ok, V.get, V.set, V.fget, V.fhas, V.fset, noR, Z.v, Z.sz, if_true, if_false, ite_true, ite_false, cond_true, cond_false, reduceCtorEq, forall_const, Nat.reduceAdd, Nat.reduceMul, Nat.reduceSub, Nat.reduceBEq, Nat.reduceEqDiff, dropTo, List.map_cons, List.map_nil, List.filter_cons, List.filter_nil, Nat.reduceLeDiff, Nat.testBit, Nat.reduceBneDiff, bne_self_eq_false, Nat.reduceBNe, ↓reduceIte, eqP_nn, eqV_nn, eqP_in, eqV_in, eqP_pn, eqV_pn, eqP_mn, eqV_mn])
            refine loop_rule (σ := Nat) (fun y => y ≤ 5) (fun y => fr 146 [(1, .lst 1 24 (ws rc)), (2, .lst 1 25 (fun j => .int .i64 (tv 24 j : Nat))), (3, .ptr 0 []), (6, .ptr 1 []), (7, .int .i64 i), (8, .ptr 2 []), (9, .ptr 3 []), (10, .int .i64 u), (11, W (par L ((u + 4) % 5))), (12, W (par L ((u + 1) % 5))), (14, .int .i64 (5 * y : Nat))])
              (fun y => [(0, .ar 1 25 (ws L)), (1, .ar 1 25 (fun _ => W 0)), (2, .ar 1 25 (fun j => W (bq L u y j))), (3, .ar 1 25 (fun _ => W 0))]) (fun _ => 4) (fun y => 5 - y) 0 (by omega) ?_ ?_
            · refine Weak.fr [0, 1, 2, 3] [] hx (by simp only [fr_length]) (by decide) ?_ ?_
              · simp only [LT, SimL, ne_eq, Nat.reduceLT, SimA, Sim, SimH, frz, hget, hhas, List.getElem?_cons_zero, List.getElem?_cons_succ, List.getElem?_nil, BEq.rfl, if_true, reduceCtorEq, Option.some.injEq, Nat.reduceEqDiff, if_false, List.contains_cons, List.contains_nil, V.ok, V.get, V.fget, V.fhas, Nat.reduceLeDiff, implies_true, Nat.reduceBEq, Int.cast_ofNat_Int, mq_5]
                rfl
              · simp only [LT, SimL, ne_eq, Nat.reduceLT, SimA, Sim, SimH, frz, hget, hhas, List.getElem?_cons_zero, List.getElem?_cons_succ, List.getElem?_nil, BEq.rfl, if_true, reduceCtorEq, Option.some.injEq, Nat.reduceEqDiff, if_false, List.contains_cons, List.contains_nil, V.ok, V.get, V.fget, V.fhas, Nat.reduceLeDiff, implies_true, Nat.reduceBEq, Int.cast_ofNat_Int]
            · intro y hy
              by_cases hy5 : y = 5
              · subst hy5
                have d2 : decide (((5 * 5 : Nat) : Int) < 25) = false := rfl
                (refine ex_sound 30 _ _ _ _ ?_; simp (maxSteps := 2000000) only [d2, wu, LQ, ↓step_conv, OpD, epk, epochs, Mv.hx, idsOK, bs, wmask, LK.isW, LK.isA, LK.isP, step, num, X.ev, List.cons_append, List.nil_append, ne_eq, Nat.reduceLT, Int.reduceLE, Int.reduceLT, Int.cast_ofNat_Int, Nat.reducePow, Nat.reduceAnd, Nat.reduceOr, Nat.reduceShiftRight, BEq.rfl, Int.reduceToNat, vpick, vopt, optInt, isInt, vbuild, vbuildOK, vcaps, vcapsOK, elems, elemsOK, List.length_cons, List.length_nil, hget, hset, hdel, hhas, padd, V.ok, V.get, V.set, V.fget, V.fhas, V.fset, noR, Z.v, Z.sz, if_true, if_false, ite_true, ite_false, cond_true, cond_false, reduceCtorEq, forall_const, Nat.reduceAdd, Nat.reduceMul, Nat.reduceSub, Nat.reduceBEq, Nat.reduceEqDiff, dropTo, List.map_cons, List.map_nil, List.filter_cons, List.filter_nil, Nat.reduceLeDiff, Nat.testBit, Nat.reduceBneDiff, bne_self_eq_false, Nat.reduceBNe, ↓reduceIte, eqP_nn, eqV_nn, eqP_in, eqV_in, eqP_pn, eqV_pn, eqP_mn, eqV_mn])
                refine ⟨u + 1, by omega, by omega, ?_⟩
                refine Weak.fr [0, 1, 2, 3] [] hx (by simp only [fr_length]) (by decide) ?_ ?_
                · simp only [LT, SimL, ne_eq, Nat.reduceLT, SimA, Sim, SimH, frz, hget, hhas, List.getElem?_cons_zero, List.getElem?_cons_succ, List.getElem?_nil, BEq.rfl, if_true, reduceCtorEq, Option.some.injEq, Nat.reduceEqDiff, if_false, List.contains_cons, List.contains_nil, V.ok, V.get, V.fget, V.fhas, Nat.reduceLeDiff, implies_true, Nat.reduceBEq, Int.cast_ofNat_Int]
                · simp only [LT, SimL, ne_eq, Nat.reduceLT, SimA, Sim, SimH, frz, hget, hhas, List.getElem?_cons_zero, List.getElem?_cons_succ, List.getElem?_nil, BEq.rfl, if_true, reduceCtorEq, Option.some.injEq, Nat.reduceEqDiff, if_false, List.contains_cons, List.contains_nil, V.ok, V.get, V.fget, V.fhas, Nat.reduceLeDiff, implies_true, Nat.reduceBEq, Int.cast_ofNat_Int]
                  intro j hj
                  unfold bq
                  by_cases h1 : j % 5 < u ∨ (j % 5 = u ∧ j / 5 < 5)
                  · rw [if_pos h1, if_pos (by omega)]
                  · rw [if_neg h1, if_neg (by omega)]
              · have d2 : decide (((5 * y : Nat) : Int) < 25) = true := decide_eq_true (by omega)
                have w1 : IntKind.i64.wrap (((5 * y : Nat) : Int) + 5) = ((5 * (y + 1) : Nat) : Int) := by rw [wrap_i64 (by omega)]; omega
                have w2 : IntKind.i64.wrap ((u : Int) + ((5 * y : Nat) : Int)) = ((u + 5 * y : Nat) : Int) := by rw [wrap_i64 (by omega)]; omega
                (refine ex_sound 30 _ _ _ _ ?_; simp (maxSteps := 2000000) only [d2, w1, w2, LQ, ↓step_conv, OpD, epk, epochs, Mv.hx, idsOK, bs, wmask, LK.isW, LK.isA, LK.isP, step, num, X.ev, List.cons_append, List.nil_append, ne_eq, Nat.reduceLT, Int.reduceLE, Int.reduceLT, Int.cast_ofNat_Int, Nat.reducePow, Nat.reduceAnd, Nat.reduceOr, Nat.reduceShiftRight, BEq.rfl, Int.reduceToNat, vpick, vopt, optInt, isInt, vbuild, vbuildOK, vcaps, vcapsOK, elems, elemsOK, List.length_cons, List.length_nil, hget, hset, hdel, hhas, padd, V.ok, V.get, V.set, V.fget, V.fhas, V.fset, noR, Z.v, Z.sz, if_true, if_false, ite_true, ite_false, cond_true, cond_false, reduceCtorEq, forall_const, Nat.reduceAdd, Nat.reduceMul, Nat.reduceSub, Nat.reduceBEq, Nat.reduceEqDiff, dropTo, List.map_cons, List.map_nil, List.filter_cons, List.filter_nil, Nat.reduceLeDiff, Nat.testBit, Nat.reduceBneDiff, bne_self_eq_false, Nat.reduceBNe, ↓reduceIte, eqP_nn, eqV_nn, eqP_in, eqV_in, eqP_pn, eqV_pn, eqP_mn, eqV_mn])
                refine ⟨_, _, call_pure (runs_left ok _ 1 (by omega)) ⟨rfl, rfl, trivial⟩ rfl ⟨rfl, rfl⟩, ?_⟩
                simp only [LQ, ↓step_conv, OpD, epk, epochs, Mv.hx, idsOK, bs, wmask, LK.isW, LK.isA, LK.isP, step, num, X.ev, List.cons_append, List.nil_append, ne_eq, Nat.reduceLT, Int.reduceLE, Int.reduceLT, Int.cast_ofNat_Int, Nat.reducePow, Nat.reduceAnd, Nat.reduceOr, Nat.reduceShiftRight, BEq.rfl, Int.reduceToNat, vpick, vopt, optInt, isInt, vbuild, vbuildOK, vcaps, vcapsOK, elems, elemsOK, List.length_cons, List.length_nil, hget, hset, hdel, hhas, padd, V.ok, V.get, V.set, V.fget, V.fhas, V.fset, noR, Z.v, Z.sz, if_true, if_false, ite_true, ite_false, cond_true, cond_false, reduceCtorEq, forall_const, Nat.reduceAdd, Nat.reduceMul, Nat.reduceSub, Nat.reduceBEq, Nat.reduceEqDiff, dropTo, List.map_cons, List.map_nil, List.filter_cons, List.filter_nil, Nat.reduceLeDiff, Nat.testBit, Nat.reduceBneDiff, bne_self_eq_false, Nat.reduceBNe, ↓reduceIte, eqP_nn, eqV_nn, eqP_in, eqV_in, eqP_pn, eqV_pn, eqP_mn, eqV_mn]
                refine ⟨by omega, by omega, by omega, by omega, by omega, y + 1, by omega, by omega, ?_⟩
                refine Weak.fr [0, 1, 2, 3] [] hx (by simp only [fr_length]) (by decide) ?_ ?_
                · simp only [LT, SimL, ne_eq, Nat.reduceLT, SimA, Sim, SimH, frz, hget, hhas, List.getElem?_cons_zero, List.getElem?_cons_succ, List.getElem?_nil, BEq.rfl, if_true, reduceCtorEq, Option.some.injEq, Nat.reduceEqDiff, if_false, List.contains_cons, List.contains_nil, V.ok, V.get, V.fget, V.fhas, Nat.reduceLeDiff, implies_true, Nat.reduceBEq, Int.cast_ofNat_Int]
                · simp only [LT, SimL, ne_eq, Nat.reduceLT, SimA, Sim, SimH, frz, hget, hhas, List.getElem?_cons_zero, List.getElem?_cons_succ, List.getElem?_nil, BEq.rfl, if_true, reduceCtorEq, Option.some.injEq, Nat.reduceEqDiff, if_false, List.contains_cons, List.contains_nil, V.ok, V.get, V.fget, V.fhas, Nat.reduceLeDiff, implies_true, Nat.reduceBEq, Int.cast_ofNat_Int]
                  intro j hj
                  by_cases h1 : j = u + 5 * y
                  · subst h1
                    have hm : (u + 5 * y) % 5 = u := by omega
                    rw [if_pos rfl, bq, if_pos (by omega), thq, if_pos (by omega), dth, hm, BitVec.xor_assoc]
                  · rw [if_neg h1]
                    unfold bq
                    by_cases h2 : j % 5 < u ∨ (j % 5 = u ∧ j / 5 < y)
                    · rw [if_pos h2, if_pos (by omega)]
                    · rw [if_neg h2, if_neg (by omega)]
          · have d2 : decide (((5 * y : Nat) : Int) < 25) = true := decide_eq_true (by omega)
            have w1 : IntKind.i64.wrap (((5 * y : Nat) : Int) + 5) = ((5 * (y + 1) : Nat) : Int) := by rw [wrap_i64 (by omega)]; omega
            have w2 : IntKind.i64.wrap ((u : Int) + 4) = ((u + 4 : Nat) : Int) := by rw [wrap_i64 (by omega)]; omega
            have w3 : ((u + 4 : Nat) : Int).tmod 5 = (((u + 4) % 5 : Nat) : Int) := by rw [Int.tmod_eq_emod_of_nonneg (by omega)]; omega
            have w4 : ((u + 1 : Nat) : Int).tmod 5 = (((u + 1) % 5 : Nat) : Int) := by rw [Int.tmod_eq_emod_of_nonneg (by omega)]; omega
            have w5 : IntKind.i64.wrap ((((u + 4) % 5 : Nat) : Int) + ((5 * y : Nat) : Int)) = (((u + 4) % 5 + 5 * y : Nat) : Int) := by rw [wrap_i64 (by omega)]; omega
            have w6 : IntKind.i64.wrap ((((u + 1) % 5 : Nat) : Int) + ((5 * y : Nat) : Int)) = (((u + 1) % 5 + 5 * y : Nat) : Int) := by rw [wrap_i64 (by omega)]; omega
            (refine ex_sound 30 _ _ _ _ ?_; simp (maxSteps := 2000000) only [d2, w1, w2, w3, w4, w5, w6, wu, LQ, ↓step_conv, OpD, epk, epochs, Mv.hx, idsOK, bs, wmask, LK.isW, LK.isA, LK.isP, step, num, X.ev, List.cons_append, List.nil_append, ne_eq, Nat.reduceLT, Int.reduceLE, Int.reduceLT, Int.cast_ofNat_Int, Nat.reducePow, Nat.reduceAnd, Nat.reduceOr, Nat.reduceShiftRight, BEq.rfl, Int.reduceToNat, vpick, vopt, optInt, isInt, vbuild, vbuildOK, vcaps, vcapsOK, elems, elemsOK, List.length_cons, List.length_nil, hget, hset, hdel, hhas, padd, V.ok, V.get, V.set, V.fget, V.fhas, V.fset, noR, Z.v, Z.sz, if_true, if_false, ite_true, ite_false, cond_true, cond_false, reduceCtorEq, forall_const, Nat.reduceAdd, Nat.reduceMul, Nat.reduceSub, Nat.reduceBEq, Nat.reduceEqDiff, dropTo, List.map_cons, List.map_nil, List.filter_cons, List.filter_nil, Nat.reduceLeDiff, Nat.testBit, Nat.reduceBneDiff, bne_self_eq_false, Nat.reduceBNe, ↓reduceIte, eqP_nn, eqV_nn, eqP_in, eqV_in, eqP_pn, eqV_pn, eqP_mn, eqV_mn])
            refine ⟨by omega, by omega, by omega, by omega, by omega, by omega, y + 1, by omega, by omega, ?_⟩
            refine Weak.fr [0, 1, 2, 3] [] hx (by simp only [fr_length]) (by decide) ?_ ?_
            · simp only [LT, SimL, ne_eq, Nat.reduceLT, SimA, Sim, SimH, frz, hget, hhas, List.getElem?_cons_zero, List.getElem?_cons_succ, List.getElem?_nil, BEq.rfl, if_true, reduceCtorEq, Option.some.injEq, Nat.reduceEqDiff, if_false, List.contains_cons, List.contains_nil, V.ok, V.get, V.fget, V.fhas, Nat.reduceLeDiff, implies_true, Nat.reduceBEq, Int.cast_ofNat_Int]
              exact ⟨rfl, rfl⟩
            · simp only [LT, SimL, ne_eq, Nat.reduceLT, SimA, Sim, SimH, frz, hget, hhas, List.getElem?_cons_zero, List.getElem?_cons_succ, List.getElem?_nil, BEq.rfl, if_true, reduceCtorEq, Option.some.injEq, Nat.reduceEqDiff, if_false, List.contains_cons, List.contains_nil, V.ok, V.get, V.fget, V.fhas, Nat.reduceLeDiff, implies_true, Nat.reduceBEq, Int.cast_ofNat_Int]
end Mv
namespace Mv
open Go
set_option maxRecDepth 20000
set_option maxHeartbeats 4000000
set_option linter.unusedSimpArgs false

/-- 64 bytes, as a piece. -/
def pd (p : Nat → BitVec 8) (j : Nat) : BitVec 8 := if j < 64 then p j else if j = 64 then 1 else if j = 135 then 128 else 0
def p1 (p : Nat → BitVec 8) (j : Nat) : BitVec 8 := if j < 64 then p j else if j = 64 then 1 else 0
abbrev sQ (p : Nat → BitVec 8) : V → Hp → Nat → Prop := fun r H' k' => r = dg (dig (absd (List.replicate 25 0) (pd p))) ∧ H' = [] ∧ k' = 0

theorem runs_refSum {M : Seat} (ok : OkB M) (p : Nat → BitVec 8) :
    Runs M 311 [.lst 1 64 (fun j => B (p j))] [] 0 (sQ p) := by
  refine runs_fr ok.k311 rfl fun x hx => ?_
  refine ex_sound 30 _ _ _ _ ?_
  simp only [f311, c311, LQ, ↓step_conv, OpD, epk, epochs, Mv.hx, idsOK, bs, wmask, LK.isW, LK.isA, LK.isP, step, num, X.ev, List.cons_append, List.nil_append, ne_eq, Nat.reduceLT, Int.reduceLE, Int.reduceLT, Int.cast_ofNat_Int, Nat.reducePow, Nat.reduceAnd, Nat.reduceOr, Nat.reduceShiftRight, BEq.rfl, Int.reduceToNat, vpick, vopt, optInt, isInt, vbuild, vbuildOK, vcaps, vcapsOK, elems, elemsOK, List.length_cons, List.length_nil, hget, hset, hdel, hhas, padd, V.ok, V.get, V.set, V.fget, V.fhas, V.fset, noR, Z.v, Z.sz, if_true, if_false, ite_true, ite_false, cond_true, cond_false, reduceCtorEq, forall_const, Nat.reduceAdd, Nat.reduceMul, Nat.reduceSub, Nat.reduceBEq, Nat.reduceEqDiff, dropTo, List.map_cons, List.map_nil, List.filter_cons, List.filter_nil, Nat.reduceLeDiff, Nat.testBit, Nat.reduceBneDiff, bne_self_eq_false, Nat.reduceBNe, ↓reduceIte, eqP_nn, eqV_nn, eqP_in, eqV_in, eqP_pn, eqV_pn, eqP_mn, eqV_mn]
  refine call_runs (runs_Constants ok) False [] [] List.nodup_nil (by simp) rfl (by simp) trivial trivial ?_
  rintro r H' k' ⟨rfl, rfl, rfl⟩
  refine ⟨⟨by omega, fun h => h.elim⟩, ?_⟩
  have hnum : nums [] 16 1 = [16] := rfl
  simp only [hnum, LN, V.ren, renH, hrest, hdel, ren_lvV, List.getElem?_cons_zero, List.getElem?_cons_succ, List.append_nil, List.nil_append, List.cons_append, ne_eq, if_false, if_true, Nat.reduceEqDiff, reduceCtorEq]
  refine call_runs (runs_Turns ok) False [] [] List.nodup_nil (by simp) rfl (by simp) trivial trivial ?_
  rintro r H' k' ⟨rfl, rfl, rfl⟩
  refine ⟨⟨by omega, fun h => h.elim⟩, ?_⟩
  have hnum2 : nums [] 32 1 = [32] := rfl
  simp only [hnum2, LN, V.ren, renH, hrest, hdel, ren_lvV, List.getElem?_cons_zero, List.getElem?_cons_succ, List.append_nil, List.nil_append, List.cons_append, ne_eq, if_false, if_true, Nat.reduceEqDiff, reduceCtorEq]
  simp (maxSteps := 2000000) only [LQ, ↓step_conv, OpD, epk, epochs, Mv.hx, idsOK, bs, wmask, LK.isW, LK.isA, LK.isP, step, num, X.ev, List.cons_append, List.nil_append, ne_eq, Nat.reduceLT, Int.reduceLE, Int.reduceLT, Int.cast_ofNat_Int, Nat.reducePow, Nat.reduceAnd, Nat.reduceOr, Nat.reduceShiftRight, BEq.rfl, Int.reduceToNat, vpick, vopt, optInt, isInt, vbuild, vbuildOK, vcaps, vcapsOK, elems, elemsOK, List.length_cons, List.length_nil, hget, hset, hdel, hhas, padd, V.ok, V.get, V.set, V.fget, V.fhas, V.fset, noR, Z.v, Z.sz, if_true, if_false, ite_true, ite_false, cond_true, cond_false, reduceCtorEq, forall_const, Nat.reduceAdd, Nat.reduceMul, Nat.reduceSub, Nat.reduceBEq, Nat.reduceEqDiff, dropTo, List.map_cons, List.map_nil, List.filter_cons, List.filter_nil, Nat.reduceLeDiff, Nat.testBit, Nat.reduceBneDiff, bne_self_eq_false, Nat.reduceBNe, ↓reduceIte, eqP_nn, eqV_nn, eqP_in, eqV_in, eqP_pn, eqV_pn, eqP_mn, eqV_mn]
  refine loop_rule (σ := Nat) (fun n => 65 ≤ n ∧ n ≤ 136) (fun n => fr 83 [(2, .ptr 0 []), (3, .sl 1 [] 0 24 1), (4, .sl 2 [] 0 25 1), (5, .sl 3 [] 0 n 1)])
      (fun n => [(0, .ar 1 32 (fun _ => B 0)), (1, .ar 1 24 (ws rc)), (2, .ar 1 25 (fun j => .int .i64 (tv 24 j : Nat))), (3, .ar 1 n (fun j => B (p1 p j)))]) (fun _ => 4) (fun n => 136 - n) 65 (by omega) ?_ ?_
  · refine Weak.fr [0, 16, 32, 176] [] hx (by simp only [fr_length]) (by decide) ?_ ?_
    · simp only [LT, SimL, ne_eq, Nat.reduceLT, SimA, Sim, SimH, frz, hget, hhas, List.getElem?_cons_zero, List.getElem?_cons_succ, List.getElem?_nil, BEq.rfl, if_true, reduceCtorEq, Option.some.injEq, Nat.reduceEqDiff, if_false, List.contains_cons, List.contains_nil, V.ok, V.get, V.fget, V.fhas, Nat.reduceLeDiff, implies_true, Nat.reduceBEq, Int.cast_ofNat_Int]
    · simp only [LT, SimL, ne_eq, Nat.reduceLT, SimA, Sim, SimH, frz, hget, hhas, List.getElem?_cons_zero, List.getElem?_cons_succ, List.getElem?_nil, BEq.rfl, if_true, reduceCtorEq, Option.some.injEq, Nat.reduceEqDiff, if_false, List.contains_cons, List.contains_nil, V.ok, V.get, V.fget, V.fhas, Nat.reduceLeDiff, implies_true, Nat.reduceBEq, Int.cast_ofNat_Int, B_0]
      intro i hi
      by_cases h1 : i < 64
      · rw [if_pos h1, if_neg (by omega), p1, if_pos h1]
        exact (Sim_B _ _ _ _ _).mpr rfl
      · have : i = 64 := by omega
        subst this
        rw [if_neg (by omega), if_pos (by omega)]
        exact (Sim_B _ _ _ 1 1).mpr rfl
  · intro n ⟨hn, hn2⟩
    by_cases h136 : n = 136
    · subst h136
      have d0 : Int.tmod 136 136 = 0 := rfl
      have d1 : decide ((0 : Int) = 0) = true := rfl
      have w0 : IntKind.i64.wrap (136 - 1) = 135 := rfl
      have b128 : V.int .u8 128 = B 128 := rfl
      have hp : ∀ j, (if j = 135 then p1 p 135 ^^^ 128 else p1 p j) = pd p j := by
        intro j
        unfold p1 pd
        by_cases h1 : j = 135
        · subst h1; simp
        · rw [if_neg h1, if_neg h1]
      (refine ex_sound 5 _ _ _ _ ?_; simp (maxSteps := 2000000) only [d0, d1, LQ, ↓step_conv, OpD, epk, epochs, Mv.hx, idsOK, bs, wmask, LK.isW, LK.isA, LK.isP, step, num, X.ev, List.cons_append, List.nil_append, ne_eq, Nat.reduceLT, Int.reduceLE, Int.reduceLT, Int.cast_ofNat_Int, Nat.reducePow, Nat.reduceAnd, Nat.reduceOr, Nat.reduceShiftRight, BEq.rfl, Int.reduceToNat, vpick, vopt, optInt, isInt, vbuild, vbuildOK, vcaps, vcapsOK, elems, elemsOK, List.length_cons, List.length_nil, hget, hset, hdel, hhas, padd, V.ok, V.get, V.set, V.fget, V.fhas, V.fset, noR, Z.v, Z.sz, if_true, if_false, ite_true, ite_false, cond_true, cond_false, reduceCtorEq, forall_const, Nat.reduceAdd, Nat.reduceMul, Nat.reduceSub, Nat.reduceBEq, Nat.reduceEqDiff, dropTo, List.map_cons, List.map_nil, List.filter_cons, List.filter_nil, Nat.reduceLeDiff, Nat.testBit, Nat.reduceBneDiff, bne_self_eq_false, Nat.reduceBNe, ↓reduceIte, eqP_nn, eqV_nn, eqP_in, eqV_in, eqP_pn, eqV_pn, eqP_mn, eqV_mn])
      refine ⟨by omega, ?_⟩
      (refine ex_sound 30 _ _ _ _ ?_; simp (maxSteps := 2000000) only [d0, d1, w0, b128, hp, LQ, ↓step_conv, OpD, epk, epochs, Mv.hx, idsOK, bs, wmask, LK.isW, LK.isA, LK.isP, step, num, X.ev, List.cons_append, List.nil_append, ne_eq, Nat.reduceLT, Int.reduceLE, Int.reduceLT, Int.cast_ofNat_Int, Nat.reducePow, Nat.reduceAnd, Nat.reduceOr, Nat.reduceShiftRight, BEq.rfl, Int.reduceToNat, vpick, vopt, optInt, isInt, vbuild, vbuildOK, vcaps, vcapsOK, elems, elemsOK, List.length_cons, List.length_nil, hget, hset, hdel, hhas, padd, V.ok, V.get, V.set, V.fget, V.fhas, V.fset, noR, Z.v, Z.sz, if_true, if_false, ite_true, ite_false, cond_true, cond_false, reduceCtorEq, forall_const, Nat.reduceAdd, Nat.reduceMul, Nat.reduceSub, Nat.reduceBEq, Nat.reduceEqDiff, dropTo, List.map_cons, List.map_nil, List.filter_cons, List.filter_nil, Nat.reduceLeDiff, Nat.testBit, Nat.reduceBneDiff, bne_self_eq_false, Nat.reduceBNe, ↓reduceIte, eqP_nn, eqV_nn, eqP_in, eqV_in, eqP_pn, eqV_pn, eqP_mn, eqV_mn])
      refine loop_rule (σ := Nat) (fun r => r ≤ 1) (fun r => fr 83 [(2, .ptr 0 []), (3, .sl 1 [] 0 24 1), (4, .sl 2 [] 0 25 1), (5, .sl 3 [] 0 136 1), (6, .ptr 4 []), (7, .int .i64 (136 * r : Nat))])
        (fun r => [(0, .ar 1 32 (fun _ => B 0)), (1, .ar 1 24 (ws rc)), (2, .ar 1 25 (fun j => .int .i64 (tv 24 j : Nat))), (3, .ar 1 136 (fun j => B (pd p j))), (4, .ar 1 25 (ws (if r = 0 then List.replicate 25 0 else absd (List.replicate 25 0) (pd p))))]) (fun _ => 5) (fun r => 1 - r) 0 (by omega) ?_ ?_
      · refine Weak.fr [0, 1, 2, 3, 212] [] hx (by simp only [fr_length]) (by decide) ?_ ?_
        · simp only [LT, SimL, ne_eq, Nat.reduceLT, SimA, Sim, SimH, frz, hget, hhas, List.getElem?_cons_zero, List.getElem?_cons_succ, List.getElem?_nil, BEq.rfl, if_true, reduceCtorEq, Option.some.injEq, Nat.reduceEqDiff, if_false, List.contains_cons, List.contains_nil, V.ok, V.get, V.fget, V.fhas, Nat.reduceLeDiff, implies_true, Nat.reduceBEq, Int.cast_ofNat_Int]
          rfl
        · simp only [LT, SimL, ne_eq, Nat.reduceLT, SimA, Sim, SimH, frz, hget, hhas, List.getElem?_cons_zero, List.getElem?_cons_succ, List.getElem?_nil, BEq.rfl, if_true, reduceCtorEq, Option.some.injEq, Nat.reduceEqDiff, if_false, List.contains_cons, List.contains_nil, V.ok, V.get, V.fget, V.fhas, Nat.reduceLeDiff, implies_true, Nat.reduceBEq, Int.cast_ofNat_Int, if_true, W_0]
          intro j hj
          rw [List.getD, List.getElem?_replicate, if_pos hj]; rfl
      · intro r hr
        by_cases h1 : r = 1
        · subst h1
          have d2 : decide (((136 * 1 : Nat) : Int) < 136) = false := rfl
          (refine ex_sound 30 _ _ _ _ ?_; simp (maxSteps := 2000000) only [d2, if_neg (Nat.one_ne_zero), LQ, ↓step_conv, OpD, epk, epochs, Mv.hx, idsOK, bs, wmask, LK.isW, LK.isA, LK.isP, step, num, X.ev, List.cons_append, List.nil_append, ne_eq, Nat.reduceLT, Int.reduceLE, Int.reduceLT, Int.cast_ofNat_Int, Nat.reducePow, Nat.reduceAnd, Nat.reduceOr, Nat.reduceShiftRight, BEq.rfl, Int.reduceToNat, vpick, vopt, optInt, isInt, vbuild, vbuildOK, vcaps, vcapsOK, elems, elemsOK, List.length_cons, List.length_nil, hget, hset, hdel, hhas, padd, V.ok, V.get, V.set, V.fget, V.fhas, V.fset, noR, Z.v, Z.sz, if_true, if_false, ite_true, ite_false, cond_true, cond_false, reduceCtorEq, forall_const, Nat.reduceAdd, Nat.reduceMul, Nat.reduceSub, Nat.reduceBEq, Nat.reduceEqDiff, dropTo, List.map_cons, List.map_nil, List.filter_cons, List.filter_nil, Nat.reduceLeDiff, Nat.testBit, Nat.reduceBneDiff, bne_self_eq_false, Nat.reduceBNe, ↓reduceIte, eqP_nn, eqV_nn, eqP_in, eqV_in, eqP_pn, eqV_pn, eqP_mn, eqV_mn])
          generalize hS : absd (List.replicate 25 0) (pd p) = S
          refine loop_rule (σ := Nat) (fun i => i ≤ 32) (fun i => fr 83 [(2, .ptr 2 []), (9, .ptr 0 []), (6, .ptr 1 []), (10, .int .i64 i)])
            (fun i => [(0, .ar 1 32 (fun j => B (if j < i then (dig S).at j else 0))), (1, .ar 1 25 (ws S)), (2, .ar 1 32 (fun _ => B 0))]) (fun _ => 3) (fun i => 32 - i) 0 (by omega) ?_ ?_
          · refine Weak.fr [69, 4, 0] [] hx (by simp only [fr_length]) (by decide) ?_ ?_
            · simp only [LT, SimL, ne_eq, Nat.reduceLT, SimA, Sim, SimH, frz, hget, hhas, List.getElem?_cons_zero, List.getElem?_cons_succ, List.getElem?_nil, BEq.rfl, if_true, reduceCtorEq, Option.some.injEq, Nat.reduceEqDiff, if_false, List.contains_cons, List.contains_nil, V.ok, V.get, V.fget, V.fhas, Nat.reduceLeDiff, implies_true, Nat.reduceBEq, Int.cast_ofNat_Int]
            · simp only [LT, SimL, ne_eq, Nat.reduceLT, SimA, Sim, SimH, frz, hget, hhas, List.getElem?_cons_zero, List.getElem?_cons_succ, List.getElem?_nil, BEq.rfl, if_true, reduceCtorEq, Option.some.injEq, Nat.reduceEqDiff, if_false, List.contains_cons, List.contains_nil, V.ok, V.get, V.fget, V.fhas, Nat.reduceLeDiff, implies_true, Nat.reduceBEq, Int.cast_ofNat_Int, B_0]
              exact fun _ _ => by rw [if_neg (by omega)]
          · intro i hi
            by_cases h32 : i = 32
            · subst h32
              have d3 : decide (((32 : Nat) : Int) < 32) = false := rfl
              (refine ex_sound 30 _ _ _ _ ?_; simp (maxSteps := 2000000) only [d3, LQ, ↓step_conv, OpD, epk, epochs, Mv.hx, idsOK, bs, wmask, LK.isW, LK.isA, LK.isP, step, num, X.ev, List.cons_append, List.nil_append, ne_eq, Nat.reduceLT, Int.reduceLE, Int.reduceLT, Int.cast_ofNat_Int, Nat.reducePow, Nat.reduceAnd, Nat.reduceOr, Nat.reduceShiftRight, BEq.rfl, Int.reduceToNat, vpick, vopt, optInt, isInt, vbuild, vbuildOK, vcaps, vcapsOK, elems, elemsOK, List.length_cons, List.length_nil, hget, hset, hdel, hhas, padd, V.ok, V.get, V.set, V.fget, V.fhas, V.fset, noR, Z.v, Z.sz, if_true, if_false, ite_true, ite_false, cond_true, cond_false, reduceCtorEq, forall_const, Nat.reduceAdd, Nat.reduceMul, Nat.reduceSub, Nat.reduceBEq, Nat.reduceEqDiff, dropTo, List.map_cons, List.map_nil, List.filter_cons, List.filter_nil, Nat.reduceLeDiff, Nat.testBit, Nat.reduceBneDiff, bne_self_eq_false, Nat.reduceBNe, ↓reduceIte, eqP_nn, eqV_nn, eqP_in, eqV_in, eqP_pn, eqV_pn, eqP_mn, eqV_mn])
              refine RetS.mk hx [] [] (dg (dig S)) [] 0 (by decide) ?_ ?_ trivial ?_
              rotate_left 2
              · exact ⟨by rw [hS], rfl, rfl⟩
              · simp only [res, resPs, resP, tupP, resV, LU, ↓step_conv, ex, Ro, RoD, OpD, epk, epochs, Mv.hx, idsOK, bs, wmask, LK.isW, LK.isA, LK.isP, step, num, X.ev, List.cons_append, List.nil_append, ne_eq, Nat.reduceLT, Int.reduceLE, Int.reduceLT, Int.cast_ofNat_Int, Nat.reducePow, Nat.reduceAnd, Nat.reduceOr, Nat.reduceShiftRight, BEq.rfl, Int.reduceToNat, vpick, vopt, optInt, isInt, vbuild, vbuildOK, vcaps, vcapsOK, elems, elemsOK, List.length_cons, List.length_nil, hget, hset, hdel, hhas, padd, V.ok, V.get, V.set, V.fget, V.fhas, V.fset, noR, Z.v, Z.sz, if_true, if_false, ite_true, ite_false, cond_true, cond_false, reduceCtorEq, forall_const, Nat.reduceAdd, Nat.reduceMul, Nat.reduceSub, Nat.reduceBEq, Nat.reduceEqDiff, dropTo, List.map_cons, List.map_nil, List.filter_cons, List.filter_nil]
              · simp only [res, resV, tupV, tup2, tup3, LU, ↓step_conv, ex, Ro, RoD, OpD, epk, epochs, Mv.hx, idsOK, bs, wmask, LK.isW, LK.isA, LK.isP, step, num, X.ev, List.cons_append, List.nil_append, ne_eq, Nat.reduceLT, Int.reduceLE, Int.reduceLT, Int.cast_ofNat_Int, Nat.reducePow, Nat.reduceAnd, Nat.reduceOr, Nat.reduceShiftRight, BEq.rfl, Int.reduceToNat, vpick, vopt, optInt, isInt, vbuild, vbuildOK, vcaps, vcapsOK, elems, elemsOK, List.length_cons, List.length_nil, hget, hset, hdel, hhas, padd, V.ok, V.get, V.set, V.fget, V.fhas, V.fset, noR, Z.v, Z.sz, if_true, if_false, ite_true, ite_false, cond_true, cond_false, reduceCtorEq, forall_const, Nat.reduceAdd, Nat.reduceMul, Nat.reduceSub, Nat.reduceBEq, Nat.reduceEqDiff, dropTo, List.map_cons, List.map_nil, List.filter_cons, List.filter_nil, LT, SimL, ne_eq, Nat.reduceLT, SimA, Sim, SimH, frz, hget, hhas, List.getElem?_cons_zero, List.getElem?_cons_succ, List.getElem?_nil, BEq.rfl, if_true, reduceCtorEq, Option.some.injEq, Nat.reduceEqDiff, if_false, List.contains_cons, List.contains_nil, V.ok, V.get, V.fget, V.fhas, Nat.reduceLeDiff, implies_true, Nat.reduceBEq, Int.cast_ofNat_Int, dg]
                intro j hj
                rw [if_pos hj]
            · have d3 : decide ((i : Int) < 32) = true := decide_eq_true (by omega)
              have w1 : IntKind.i64.wrap ((i : Int) + 1) = ((i + 1 : Nat) : Int) := by rw [wrap_i64 (by omega)]; omega
              have w2 : IntKind.i64.wrap ((i : Int).tdiv 8) = ((i / 8 : Nat) : Int) := by rw [Int.tdiv_eq_ediv_of_nonneg (by omega), wrap_i64 (by omega)]; omega
              have w4 : (i : Int).tmod 8 = ((i % 8 : Nat) : Int) := by rw [Int.tmod_eq_emod_of_nonneg (by omega)]; omega
              have w5 : IntKind.i64.wrap (8 * ((i % 8 : Nat) : Int)) = ((8 * (i % 8) : Nat) : Int) := by rw [wrap_i64 (by omega)]; omega
              have w6 : IntKind.u64.wrap ((8 * (i % 8) : Nat) : Int) = ((8 * (i % 8) : Nat) : Int) := wrap_u64 (by omega)
              (refine ex_sound 30 _ _ _ _ ?_; simp (maxSteps := 2000000) only [d3, w1, w2, w4, w5, w6, LQ, ↓step_conv, OpD, epk, epochs, Mv.hx, idsOK, bs, wmask, LK.isW, LK.isA, LK.isP, step, num, X.ev, List.cons_append, List.nil_append, ne_eq, Nat.reduceLT, Int.reduceLE, Int.reduceLT, Int.cast_ofNat_Int, Nat.reducePow, Nat.reduceAnd, Nat.reduceOr, Nat.reduceShiftRight, BEq.rfl, Int.reduceToNat, vpick, vopt, optInt, isInt, vbuild, vbuildOK, vcaps, vcapsOK, elems, elemsOK, List.length_cons, List.length_nil, hget, hset, hdel, hhas, padd, V.ok, V.get, V.set, V.fget, V.fhas, V.fset, noR, Z.v, Z.sz, if_true, if_false, ite_true, ite_false, cond_true, cond_false, reduceCtorEq, forall_const, Nat.reduceAdd, Nat.reduceMul, Nat.reduceSub, Nat.reduceBEq, Nat.reduceEqDiff, dropTo, List.map_cons, List.map_nil, List.filter_cons, List.filter_nil, Nat.reduceLeDiff, Nat.testBit, Nat.reduceBneDiff, bne_self_eq_false, Nat.reduceBNe, ↓reduceIte, eqP_nn, eqV_nn, eqP_in, eqV_in, eqP_pn, eqV_pn, eqP_mn, eqV_mn])
              refine ⟨by omega, ⟨by omega, by omega⟩, by omega, by omega, by omega, ⟨by omega, by omega⟩, by omega, i + 1, by omega, by omega, ?_⟩
              refine Weak.fr [0, 1, 2] [] hx (by simp only [fr_length]) (by decide) ?_ ?_
              · simp only [LT, SimL, ne_eq, Nat.reduceLT, SimA, Sim, SimH, frz, hget, hhas, List.getElem?_cons_zero, List.getElem?_cons_succ, List.getElem?_nil, BEq.rfl, if_true, reduceCtorEq, Option.some.injEq, Nat.reduceEqDiff, if_false, List.contains_cons, List.contains_nil, V.ok, V.get, V.fget, V.fhas, Nat.reduceLeDiff, implies_true, Nat.reduceBEq, Int.cast_ofNat_Int]
              · simp only [LT, SimL, ne_eq, Nat.reduceLT, SimA, Sim, SimH, frz, hget, hhas, List.getElem?_cons_zero, List.getElem?_cons_succ, List.getElem?_nil, BEq.rfl, if_true, reduceCtorEq, Option.some.injEq, Nat.reduceEqDiff, if_false, List.contains_cons, List.contains_nil, V.ok, V.get, V.fget, V.fhas, Nat.reduceLeDiff, implies_true, Nat.reduceBEq, Int.cast_ofNat_Int]
                intro j hj
                by_cases hji : j = i
                · subst hji
                  rw [if_pos rfl, if_pos (by omega), dig, Dg.at_mk' _ _ hj]
                · rw [if_neg hji]
                  by_cases h2 : j < i
                  · rw [if_pos h2, if_pos (by omega)]
                  · rw [if_neg h2, if_neg (by omega)]
        · have h0 : r = 0 := by omega
          subst h0
          have d2 : decide (((136 * 0 : Nat) : Int) < 136) = true := rfl
          (refine ex_sound 30 _ _ _ _ ?_; simp (maxSteps := 2000000) only [d2, if_true, LQ, ↓step_conv, OpD, epk, epochs, Mv.hx, idsOK, bs, wmask, LK.isW, LK.isA, LK.isP, step, num, X.ev, List.cons_append, List.nil_append, ne_eq, Nat.reduceLT, Int.reduceLE, Int.reduceLT, Int.cast_ofNat_Int, Nat.reducePow, Nat.reduceAnd, Nat.reduceOr, Nat.reduceShiftRight, BEq.rfl, Int.reduceToNat, vpick, vopt, optInt, isInt, vbuild, vbuildOK, vcaps, vcapsOK, elems, elemsOK, List.length_cons, List.length_nil, hget, hset, hdel, hhas, padd, V.ok, V.get, V.set, V.fget, V.fhas, V.fset, noR, Z.v, Z.sz, if_true, if_false, ite_true, ite_false, cond_true, cond_false, reduceCtorEq, forall_const, Nat.reduceAdd, Nat.reduceMul, Nat.reduceSub, Nat.reduceBEq, Nat.reduceEqDiff, dropTo, List.map_cons, List.map_nil, List.filter_cons, List.filter_nil, Nat.reduceLeDiff, Nat.testBit, Nat.reduceBneDiff, bne_self_eq_false, Nat.reduceBNe, ↓reduceIte, eqP_nn, eqV_nn, eqP_in, eqV_in, eqP_pn, eqV_pn, eqP_mn, eqV_mn])
          refine loop_rule (σ := Nat) (fun i => i ≤ 136) (fun i => fr 83 [(2, .ptr 0 []), (3, .sl 1 [] 0 24 1), (4, .sl 2 [] 0 25 1), (5, .sl 3 [] 0 136 1), (6, .ptr 4 []), (7, .int .i64 0), (8, .int .i64 i)])
            (fun i => [(0, .ar 1 32 (fun _ => B 0)), (1, .ar 1 24 (ws rc)), (2, .ar 1 25 (fun j => .int .i64 (tv 24 j : Nat))), (3, .ar 1 136 (fun j => B (pd p j))), (4, .ar 1 25 (fun j => W (abq (List.replicate 25 0) (pd p) (i / 8) (i % 8) j)))]) (fun _ => 5) (fun i => 136 - i) 0 (by omega) ?_ ?_
          · refine Weak.fr [0, 1, 2, 3, 4] [] hx (by simp only [fr_length]) (by decide) ?_ ?_
            · simp only [LT, SimL, ne_eq, Nat.reduceLT, SimA, Sim, SimH, frz, hget, hhas, List.getElem?_cons_zero, List.getElem?_cons_succ, List.getElem?_nil, BEq.rfl, if_true, reduceCtorEq, Option.some.injEq, Nat.reduceEqDiff, if_false, List.contains_cons, List.contains_nil, V.ok, V.get, V.fget, V.fhas, Nat.reduceLeDiff, implies_true, Nat.reduceBEq, Int.cast_ofNat_Int]
            · simp only [LT, SimL, ne_eq, Nat.reduceLT, SimA, Sim, SimH, frz, hget, hhas, List.getElem?_cons_zero, List.getElem?_cons_succ, List.getElem?_nil, BEq.rfl, if_true, reduceCtorEq, Option.some.injEq, Nat.reduceEqDiff, if_false, List.contains_cons, List.contains_nil, V.ok, V.get, V.fget, V.fhas, Nat.reduceLeDiff, implies_true, Nat.reduceBEq, Int.cast_ofNat_Int]
              exact fun j _ => by rw [Nat.zero_div, Nat.zero_mod, abq_0]
          · intro i hi
            by_cases h136 : i = 136
            · subst h136
              have d3 : decide (((136 : Nat) : Int) < 136) = false := rfl
              (refine ex_sound 30 _ _ _ _ ?_; simp (maxSteps := 2000000) only [d3, LQ, ↓step_conv, OpD, epk, epochs, Mv.hx, idsOK, bs, wmask, LK.isW, LK.isA, LK.isP, step, num, X.ev, List.cons_append, List.nil_append, ne_eq, Nat.reduceLT, Int.reduceLE, Int.reduceLT, Int.cast_ofNat_Int, Nat.reducePow, Nat.reduceAnd, Nat.reduceOr, Nat.reduceShiftRight, BEq.rfl, Int.reduceToNat, vpick, vopt, optInt, isInt, vbuild, vbuildOK, vcaps, vcapsOK, elems, elemsOK, List.length_cons, List.length_nil, hget, hset, hdel, hhas, padd, V.ok, V.get, V.set, V.fget, V.fhas, V.fset, noR, Z.v, Z.sz, if_true, if_false, ite_true, ite_false, cond_true, cond_false, reduceCtorEq, forall_const, Nat.reduceAdd, Nat.reduceMul, Nat.reduceSub, Nat.reduceBEq, Nat.reduceEqDiff, dropTo, List.map_cons, List.map_nil, List.filter_cons, List.filter_nil, Nat.reduceLeDiff, Nat.testBit, Nat.reduceBneDiff, bne_self_eq_false, Nat.reduceBNe, ↓reduceIte, eqP_nn, eqV_nn, eqP_in, eqV_in, eqP_pn, eqV_pn, eqP_mn, eqV_mn])
              have w136 : IntKind.i64.wrap (0 + 136) = ((136 * 1 : Nat) : Int) := rfl
              refine call_pureL [1, 2] (runs_permute ok (mix (List.replicate 25 0) (pd p))) ?_ rfl (by simp only [NoIm, ws_at, W, implies_true]) ?_
              · simp only [LT, SimL, ne_eq, Nat.reduceLT, SimA, Sim, SimH, frz, hget, hhas, List.getElem?_cons_zero, List.getElem?_cons_succ, List.getElem?_nil, BEq.rfl, if_true, reduceCtorEq, Option.some.injEq, Nat.reduceEqDiff, if_false, List.contains_cons, List.contains_nil, V.ok, V.get, V.fget, V.fhas, Nat.reduceLeDiff, implies_true, Nat.reduceBEq, Int.cast_ofNat_Int]
                exact fun j hj => (mix_at _ _ _ hj).symm
              simp only [w136, LQ, ↓step_conv, OpD, epk, epochs, Mv.hx, idsOK, bs, wmask, LK.isW, LK.isA, LK.isP, step, num, X.ev, List.cons_append, List.nil_append, ne_eq, Nat.reduceLT, Int.reduceLE, Int.reduceLT, Int.cast_ofNat_Int, Nat.reducePow, Nat.reduceAnd, Nat.reduceOr, Nat.reduceShiftRight, BEq.rfl, Int.reduceToNat, vpick, vopt, optInt, isInt, vbuild, vbuildOK, vcaps, vcapsOK, elems, elemsOK, List.length_cons, List.length_nil, hget, hset, hdel, hhas, padd, V.ok, V.get, V.set, V.fget, V.fhas, V.fset, noR, Z.v, Z.sz, if_true, if_false, ite_true, ite_false, cond_true, cond_false, reduceCtorEq, forall_const, Nat.reduceAdd, Nat.reduceMul, Nat.reduceSub, Nat.reduceBEq, Nat.reduceEqDiff, dropTo, List.map_cons, List.map_nil, List.filter_cons, List.filter_nil, Nat.reduceLeDiff, Nat.testBit, Nat.reduceBneDiff, bne_self_eq_false, Nat.reduceBNe, ↓reduceIte, eqP_nn, eqV_nn, eqP_in, eqV_in, eqP_pn, eqV_pn, eqP_mn, eqV_mn]
              refine ⟨1, by omega, by omega, ?_⟩
              refine Weak.fr [0, 1, 2, 3, 4] [] hx (by simp only [fr_length]) (by decide) ?_ ?_
              · simp only [LT, SimL, ne_eq, Nat.reduceLT, SimA, Sim, SimH, frz, hget, hhas, List.getElem?_cons_zero, List.getElem?_cons_succ, List.getElem?_nil, BEq.rfl, if_true, reduceCtorEq, Option.some.injEq, Nat.reduceEqDiff, if_false, List.contains_cons, List.contains_nil, V.ok, V.get, V.fget, V.fhas, Nat.reduceLeDiff, implies_true, Nat.reduceBEq, Int.cast_ofNat_Int]
                rfl
              · simp only [LT, SimL, ne_eq, Nat.reduceLT, SimA, Sim, SimH, frz, hget, hhas, List.getElem?_cons_zero, List.getElem?_cons_succ, List.getElem?_nil, BEq.rfl, if_true, reduceCtorEq, Option.some.injEq, Nat.reduceEqDiff, if_false, List.contains_cons, List.contains_nil, V.ok, V.get, V.fget, V.fhas, Nat.reduceLeDiff, implies_true, Nat.reduceBEq, Int.cast_ofNat_Int, if_neg (Nat.one_ne_zero)]
                exact fun _ _ => rfl
            · have d3 : decide ((i : Int) < 136) = true := decide_eq_true (by omega)
              have w1 : IntKind.i64.wrap ((i : Int) + 1) = ((i + 1 : Nat) : Int) := by rw [wrap_i64 (by omega)]; omega
              have w2 : IntKind.i64.wrap ((i : Int).tdiv 8) = ((i / 8 : Nat) : Int) := by rw [Int.tdiv_eq_ediv_of_nonneg (by omega), wrap_i64 (by omega)]; omega
              have w3 : IntKind.i64.wrap (0 + (i : Int)) = (i : Int) := by rw [wrap_i64 (by omega)]; omega
              have w4 : (i : Int).tmod 8 = ((i % 8 : Nat) : Int) := by rw [Int.tmod_eq_emod_of_nonneg (by omega)]; omega
              have w5 : IntKind.i64.wrap (8 * ((i % 8 : Nat) : Int)) = ((8 * (i % 8) : Nat) : Int) := by rw [wrap_i64 (by omega)]; omega
              have w6 : IntKind.u64.wrap ((8 * (i % 8) : Nat) : Int) = ((8 * (i % 8) : Nat) : Int) := wrap_u64 (by omega)
              (refine ex_sound 30 _ _ _ _ ?_; simp (maxSteps := 2000000) only [d3, w1, w2, w3, w4, w5, w6, LQ, ↓step_conv, OpD, epk, epochs, Mv.hx, idsOK, bs, wmask, LK.isW, LK.isA, LK.isP, step, num, X.ev, List.cons_append, List.nil_append, ne_eq, Nat.reduceLT, Int.reduceLE, Int.reduceLT, Int.cast_ofNat_Int, Nat.reducePow, Nat.reduceAnd, Nat.reduceOr, Nat.reduceShiftRight, BEq.rfl, Int.reduceToNat, vpick, vopt, optInt, isInt, vbuild, vbuildOK, vcaps, vcapsOK, elems, elemsOK, List.length_cons, List.length_nil, hget, hset, hdel, hhas, padd, V.ok, V.get, V.set, V.fget, V.fhas, V.fset, noR, Z.v, Z.sz, if_true, if_false, ite_true, ite_false, cond_true, cond_false, reduceCtorEq, forall_const, Nat.reduceAdd, Nat.reduceMul, Nat.reduceSub, Nat.reduceBEq, Nat.reduceEqDiff, dropTo, List.map_cons, List.map_nil, List.filter_cons, List.filter_nil, Nat.reduceLeDiff, Nat.testBit, Nat.reduceBneDiff, bne_self_eq_false, Nat.reduceBNe, ↓reduceIte, eqP_nn, eqV_nn, eqP_in, eqV_in, eqP_pn, eqV_pn, eqP_mn, eqV_mn])
              refine ⟨by omega, ⟨by omega, by omega⟩, by omega, by omega, ⟨by omega, by omega⟩, by omega, by omega, by omega, by omega, ⟨by omega, by omega⟩, by omega, i + 1, by omega, by omega, ?_⟩
              have e8 : ∀ j, (if j = i / 8 then abq (List.replicate 25 0) (pd p) (i / 8) (i % 8) (i / 8) ^^^ BitVec.setWidth 64 (pd p i) <<< (8 * (i % 8)) else abq (List.replicate 25 0) (pd p) (i / 8) (i % 8) j) = abq (List.replicate 25 0) (pd p) ((i + 1) / 8) ((i + 1) % 8) j := by
                intro j
                have e9 : pd p i = pd p (8 * (i / 8) + i % 8) := by congr 1; omega
                rw [e9, abq_k]
                by_cases h7 : i % 8 = 7
                · have ea : (i + 1) / 8 = i / 8 + 1 := by omega
                  have eb : (i + 1) % 8 = 0 := by omega
                  rw [h7, ea, eb, abq_i]
                · have ea : (i + 1) / 8 = i / 8 := by omega
                  have eb : (i + 1) % 8 = i % 8 + 1 := by omega
                  rw [ea, eb]
              refine Weak.fr [0, 1, 2, 3, 4] [] hx (by simp only [fr_length]) (by decide) ?_ ?_
              · simp only [LT, SimL, ne_eq, Nat.reduceLT, SimA, Sim, SimH, frz, hget, hhas, List.getElem?_cons_zero, List.getElem?_cons_succ, List.getElem?_nil, BEq.rfl, if_true, reduceCtorEq, Option.some.injEq, Nat.reduceEqDiff, if_false, List.contains_cons, List.contains_nil, V.ok, V.get, V.fget, V.fhas, Nat.reduceLeDiff, implies_true, Nat.reduceBEq, Int.cast_ofNat_Int]
              · simp only [LT, SimL, ne_eq, Nat.reduceLT, SimA, Sim, SimH, frz, hget, hhas, List.getElem?_cons_zero, List.getElem?_cons_succ, List.getElem?_nil, BEq.rfl, if_true, reduceCtorEq, Option.some.injEq, Nat.reduceEqDiff, if_false, List.contains_cons, List.contains_nil, V.ok, V.get, V.fget, V.fhas, Nat.reduceLeDiff, implies_true, Nat.reduceBEq, Int.cast_ofNat_Int, e8]
    · have e1 : ((n : Nat) : Int).tmod 136 = n := by rw [Int.tmod_eq_emod_of_nonneg (by omega)]; omega
      have d0 : decide ((n : Int) = 0) = false := decide_eq_false (by omega)
      (refine ex_sound 30 _ _ _ _ ?_; simp (maxSteps := 2000000) only [e1, d0, LQ, ↓step_conv, OpD, epk, epochs, Mv.hx, idsOK, bs, wmask, LK.isW, LK.isA, LK.isP, step, num, X.ev, List.cons_append, List.nil_append, ne_eq, Nat.reduceLT, Int.reduceLE, Int.reduceLT, Int.cast_ofNat_Int, Nat.reducePow, Nat.reduceAnd, Nat.reduceOr, Nat.reduceShiftRight, BEq.rfl, Int.reduceToNat, vpick, vopt, optInt, isInt, vbuild, vbuildOK, vcaps, vcapsOK, elems, elemsOK, List.length_cons, List.length_nil, hget, hset, hdel, hhas, padd, V.ok, V.get, V.set, V.fget, V.fhas, V.fset, noR, Z.v, Z.sz, if_true, if_false, ite_true, ite_false, cond_true, cond_false, reduceCtorEq, forall_const, Nat.reduceAdd, Nat.reduceMul, Nat.reduceSub, Nat.reduceBEq, Nat.reduceEqDiff, dropTo, List.map_cons, List.map_nil, List.filter_cons, List.filter_nil, Nat.reduceLeDiff, Nat.testBit, Nat.reduceBneDiff, bne_self_eq_false, Nat.reduceBNe, ↓reduceIte, eqP_nn, eqV_nn, eqP_in, eqV_in, eqP_pn, eqV_pn, eqP_mn, eqV_mn])
      refine ⟨by omega, by omega, n + 1, by omega, by omega, ?_⟩
      refine Weak.fr [0, 1, 2, 100] [] hx (by simp only [fr_length]) (by decide) ?_ ?_
      · simp only [LT, SimL, ne_eq, Nat.reduceLT, SimA, Sim, SimH, frz, hget, hhas, List.getElem?_cons_zero, List.getElem?_cons_succ, List.getElem?_nil, BEq.rfl, if_true, reduceCtorEq, Option.some.injEq, Nat.reduceEqDiff, if_false, List.contains_cons, List.contains_nil, V.ok, V.get, V.fget, V.fhas, Nat.reduceLeDiff, implies_true, Nat.reduceBEq, Int.cast_ofNat_Int]
      · simp only [LT, SimL, ne_eq, Nat.reduceLT, SimA, Sim, SimH, frz, hget, hhas, List.getElem?_cons_zero, List.getElem?_cons_succ, List.getElem?_nil, BEq.rfl, if_true, reduceCtorEq, Option.some.injEq, Nat.reduceEqDiff, if_false, List.contains_cons, List.contains_nil, V.ok, V.get, V.fget, V.fhas, Nat.reduceLeDiff, implies_true, Nat.reduceBEq, Int.cast_ofNat_Int]
        intro i hi
        by_cases h1 : i < n
        · rw [if_pos h1]; exact (Sim_B _ _ _ _ _).mpr rfl
        · have : i = n := by omega
          subst this
          have e2 : p1 p i = 0 := by rw [p1, if_neg (by omega), if_neg (by omega)]
          rw [if_neg h1, e2]
          simp only [ite_self]
          exact (Sim_B _ _ _ 0 0).mpr rfl
end Mv
