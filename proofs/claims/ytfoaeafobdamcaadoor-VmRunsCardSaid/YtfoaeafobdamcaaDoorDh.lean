/- commit: Root, Prove. -/
import Derived.Test.YtfoaeafobdamcaaDoorDa
import Derived.Test.YtfoaeafobdamcaaDoorDg
set_option linter.unusedSimpArgs false
set_option linter.unusedVariables false
namespace Mv
open Go
set_option maxRecDepth 20000
set_option maxHeartbeats 4000000
set_option linter.unusedSimpArgs false

end Mv
namespace Mv
open Go
set_option maxRecDepth 20000
set_option maxHeartbeats 4000000
set_option linter.unusedSimpArgs false

theorem eqP_nn (ts : List Nat) : veqP true (.iface ts) .nili .nili = True := by simp [veqP]
theorem eqV_nn (ts : List Nat) : veqV (.iface ts) .nili .nili = true := rfl
theorem eqP_in (c : Bool) (ts : List Nat) (t : Nat) (v : V) : veqP c (.iface ts) (.ifc t v) .nili = True := by simp [veqP]
theorem eqV_in (ts : List Nat) (t : Nat) (v : V) : veqV (.iface ts) (.ifc t v) .nili = false := by cases v <;> rfl
theorem eqP_pn (c : Bool) (i : Nat) (p : List Stp) : veqP c .ptr (.ptr i p) .nilp = True := by simp [veqP]
theorem eqV_pn (i : Nat) (p : List Stp) : veqV .ptr (.ptr i p) .nilp = false := rfl
theorem eqP_mn (c : Bool) (v : V) : veqP c .ptr (.imm v) .nilp = True := by simp [veqP]
theorem eqV_mn (v : V) : veqV .ptr (.imm v) .nilp = false := rfl

end Mv
namespace Mv
open Go
set_option maxRecDepth 20000
set_option maxHeartbeats 4000000
set_option linter.unusedSimpArgs false

/-- The document's machine; its blocks. -/
def refm (m r : Nat) (pc : BitVec 64) (hl : Bool) (ex : BitVec 64) : V :=
  .st 5 (.fcons 0 (.sl m [] 0 8192 1) (.fcons 1 (.sl r [] 0 16 1) (.fcons 2 (W pc) (.fcons 3 (.bool hl) (.fcons 4 (W ex) .fnil)))))

theorem Sim_W0 (H : Hp) (m z : List Nat) : Sim H m z (W 0) (V.int .u64 0) = True := by simp only [W, Sim]; exact eq_true rfl

theorem runs_Load {M : Seat} (ok : OkA M) :
    Runs M 74 [.nils] [] 0 (fun r H' k' => r = tup2 (.ptr 0 []) .nili ∧ H' = [(0, mach (fun _ => 0) (fun _ => 0) 0 false 0)] ∧ k' = 1) := by
  refine runs_fr ok.k74 rfl fun x hx => ?_
  refine ex_sound 30 _ _ _ _ ?_
  have d1 : decide ((8192 : Int) < 0) = false := rfl
  simp only [f74, c74, d1, LU, ↓step_conv, ex, Ro, RoD, OpD, epk, epochs, Mv.hx, idsOK, bs, wmask, LK.isW, LK.isA, LK.isP, step, num, X.ev, List.cons_append, List.nil_append, ne_eq, Nat.reduceLT, Int.reduceLE, Int.reduceLT, Int.cast_ofNat_Int, Nat.reducePow, Nat.reduceAnd, Nat.reduceOr, Nat.reduceShiftRight, BEq.rfl, Int.reduceToNat, vpick, vopt, optInt, isInt, vbuild, vbuildOK, vcaps, vcapsOK, elems, elemsOK, List.length_cons, List.length_nil, hget, hset, hdel, hhas, padd, V.ok, V.get, V.set, V.fget, V.fhas, V.fset, noR, Z.v, Z.sz, if_true, if_false, ite_true, ite_false, cond_true, cond_false, reduceCtorEq, forall_const, Nat.reduceAdd, Nat.reduceMul, Nat.reduceSub, Nat.reduceBEq, Nat.reduceEqDiff, dropTo, List.map_cons, List.map_nil, List.filter_cons, List.filter_nil]
  refine RetS.mk hx [96] [] (tup2 (.ptr 0 []) .nili) [(0, mach (fun _ => 0) (fun _ => 0) 0 false 0)] 1 (by decide) ?_ ?_ ?_ ⟨rfl, rfl, rfl⟩
  · simp only [res, resPs, resP, tupP, resV, LU, ↓step_conv, ex, Ro, RoD, OpD, epk, epochs, Mv.hx, idsOK, bs, wmask, LK.isW, LK.isA, LK.isP, step, num, X.ev, List.cons_append, List.nil_append, ne_eq, Nat.reduceLT, Int.reduceLE, Int.reduceLT, Int.cast_ofNat_Int, Nat.reducePow, Nat.reduceAnd, Nat.reduceOr, Nat.reduceShiftRight, BEq.rfl, Int.reduceToNat, vpick, vopt, optInt, isInt, vbuild, vbuildOK, vcaps, vcapsOK, elems, elemsOK, List.length_cons, List.length_nil, hget, hset, hdel, hhas, padd, V.ok, V.get, V.set, V.fget, V.fhas, V.fset, noR, Z.v, Z.sz, if_true, if_false, ite_true, ite_false, cond_true, cond_false, reduceCtorEq, forall_const, Nat.reduceAdd, Nat.reduceMul, Nat.reduceSub, Nat.reduceBEq, Nat.reduceEqDiff, dropTo, List.map_cons, List.map_nil, List.filter_cons, List.filter_nil]
  · simp only [res, resV, tupV, tup2, tup3, LU, ↓step_conv, ex, Ro, RoD, OpD, epk, epochs, Mv.hx, idsOK, bs, wmask, LK.isW, LK.isA, LK.isP, step, num, X.ev, List.cons_append, List.nil_append, ne_eq, Nat.reduceLT, Int.reduceLE, Int.reduceLT, Int.cast_ofNat_Int, Nat.reducePow, Nat.reduceAnd, Nat.reduceOr, Nat.reduceShiftRight, BEq.rfl, Int.reduceToNat, vpick, vopt, optInt, isInt, vbuild, vbuildOK, vcaps, vcapsOK, elems, elemsOK, List.length_cons, List.length_nil, hget, hset, hdel, hhas, padd, V.ok, V.get, V.set, V.fget, V.fhas, V.fset, noR, Z.v, Z.sz, if_true, if_false, ite_true, ite_false, cond_true, cond_false, reduceCtorEq, forall_const, Nat.reduceAdd, Nat.reduceMul, Nat.reduceSub, Nat.reduceBEq, Nat.reduceEqDiff, dropTo, List.map_cons, List.map_nil, List.filter_cons, List.filter_nil, LT, SimL, ne_eq, Nat.reduceLT, SimA, Sim, SimH, frz, hget, hhas, List.getElem?_cons_zero, List.getElem?_cons_succ, List.getElem?_nil, BEq.rfl, if_true, reduceCtorEq, Option.some.injEq, Nat.reduceEqDiff, if_false, List.contains_cons, List.contains_nil, V.ok, V.get, V.fget, V.fhas, Nat.reduceLeDiff, implies_true, Nat.reduceBEq, Int.cast_ofNat_Int, dg]
  · simp only [mach, Sim_W0, LT, SimL, ne_eq, Nat.reduceLT, SimA, Sim, SimH, frz, hget, hhas, List.getElem?_cons_zero, List.getElem?_cons_succ, List.getElem?_nil, BEq.rfl, if_true, reduceCtorEq, Option.some.injEq, Nat.reduceEqDiff, if_false, List.contains_cons, List.contains_nil, V.ok, V.get, V.fget, V.fhas, Nat.reduceLeDiff, implies_true, Nat.reduceBEq, Int.cast_ofNat_Int]

end Mv
