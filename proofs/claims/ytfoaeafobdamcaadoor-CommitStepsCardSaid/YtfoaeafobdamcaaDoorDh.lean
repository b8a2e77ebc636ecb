/- commit: Root, Prove. -/
import Derived.Test.YtfoaeafobdamcaaDoorDa
import Derived.Test.YtfoaeafobdamcaaDoorDg
set_option linter.unusedSimpArgs false
set_option linter.unusedVariables false
namespace Mv
open Go
set_option maxRecDepth 20000
set_option maxHeartbeats 4000000
set_option linter.unusedSimpArgs false

/-- A memory's tree. -/
def memN (f : Nat → BitVec 64) : Nat → Nat → Dg
  | 0, q => if q < 8192 then leafD (f q) else Dg.zero
  | h + 1, q => pair (memN f h (2 * q)) (memN f h (2 * q + 1))
def lvs (f : Nat → BitVec 64) (n : Nat) : List Dg := (List.range n).map (fun j => leafD (f j))
theorem lvs_len (f : Nat → BitVec 64) (n : Nat) : (lvs f n).length = n := by simp [lvs]
theorem lvs_at (f : Nat → BitVec 64) (n j : Nat) (hj : j < n) (d : Dg) : (lvs f n).getD j d = leafD (f j) := by
  simp [lvs, List.getD, List.getElem?_map, List.getElem?_range hj]
theorem node_mem (f : Nat → BitVec 64) (n : Nat) (hn : n ≤ 8192) (hz : ∀ j, n ≤ j → j < 8192 → f j = 0) : ∀ h q, node (lvs f n) h q = memN f h q
  | 0, q => by
    rw [node_0, memN]
    by_cases h1 : q < n
    · rw [lvs_at _ _ _ h1, if_pos (by omega)]
    · rw [getD_out (by rw [lvs_len]; omega)]
      split
      · rw [hz q (by omega) (by omega), leafD_0]
      · rfl
  | h + 1, q => by rw [node_step, memN, node_mem f n hn hz h, node_mem f n hn hz h]

theorem runs_cRoot {M : Seat} (ok : OkA M) (f g : Nat → BitVec 64) (pc : BitVec 64) (hl : Bool) (e : BitVec 64) :
    Runs M 51 [.imm (mach f g pc hl e)] [] 0 (fun r H' k' => r = tup2 (dg (memN f 13 0)) .nili ∧ H' = [] ∧ k' = 0) := by
  refine runs_fr ok.k51 rfl fun x hx => ?_
  refine ex_sound 30 _ _ _ _ ?_
  simp only [f51, c51, veqP, veqV, LU, LP, ↓step_conv, ex, Ro, RoD, OpD, LD, step, vpick, vopt, optInt, isInt, elems, elemsOK, seval, reduceCtorEq]
  refine call_runs (runs_leaves ok f g pc hl e) False [] [] List.nodup_nil (by simp) rfl (by simp) (by simp only [SimA, SimV, mach, LT, SimL, ne_eq, Nat.reduceLT, SimA, Sim, SimH, frz, hget, hhas, List.getElem?_cons_zero, List.getElem?_cons_succ, List.getElem?_nil, BEq.rfl, if_true, reduceCtorEq, Option.some.injEq, Nat.reduceEqDiff, if_false, List.contains_cons, List.contains_nil, V.ok, V.get, V.fget, V.fhas, Nat.reduceLeDiff, implies_true, Nat.reduceBEq, Int.cast_ofNat_Int]) trivial ?_
  rintro v H' k' ⟨n, hn, hz, rfl, rfl, rfl⟩
  refine ⟨⟨by omega, fun h => h.elim⟩, ?_⟩
  have hnum : nums [] 80 1 = [80] := rfl
  simp only [hnum, LN, V.ren, renH, hrest, hdel, ren_lvV, List.getElem?_cons_zero, List.getElem?_cons_succ, List.append_nil, List.nil_append, List.cons_append, ne_eq, if_false, if_true, Nat.reduceEqDiff, reduceCtorEq]
  have hl13 : (lvs f n).length ≤ 2 ^ 13 := by rw [lvs_len]; omega
  refine call_pureZ [80] (runs_Root ok 13 (by omega) (lvs f n) hl13) ⟨rfl, ?_, trivial⟩ rfl ?_
  · simp only [row, lvs_len, LT, SimL, ne_eq, Nat.reduceLT, SimA, Sim, SimH, frz, hget, hhas, List.getElem?_cons_zero, List.getElem?_cons_succ, List.getElem?_nil, BEq.rfl, if_true, reduceCtorEq, Option.some.injEq, Nat.reduceEqDiff, if_false, List.contains_cons, List.contains_nil, V.ok, V.get, V.fget, V.fhas, Nat.reduceLeDiff, implies_true, Nat.reduceBEq, Int.cast_ofNat_Int]
    intro j hj
    exact (lvs_at _ _ _ hj _).symm
  simp only [node_mem f n hn hz, hrest, tup2, LU, LP, ↓step_conv, ex, Ro, RoD, OpD, LD, step, vpick, vopt, optInt, isInt, elems, elemsOK, seval, reduceCtorEq, LN, V.ren, renH, hrest, hdel, ren_lvV, List.getElem?_cons_zero, List.getElem?_cons_succ, List.append_nil, List.nil_append, List.cons_append, ne_eq, if_false, if_true, Nat.reduceEqDiff, reduceCtorEq]
  refine RetS.mk hx [] [] (tup2 (dg (memN f 13 0)) .nili) [] 0 (by decide) ?_ ?_ trivial ⟨rfl, rfl, rfl⟩
  · simp only [res, resPs, resP, tupP, resV, LU, LP, ↓step_conv, ex, Ro, RoD, OpD, LD, step, vpick, vopt, optInt, isInt, elems, elemsOK, seval, reduceCtorEq]
    rfl
  · simp only [res, resV, tupV, tup2, tup3, LU, LP, ↓step_conv, ex, Ro, RoD, OpD, LD, step, vpick, vopt, optInt, isInt, elems, elemsOK, seval, reduceCtorEq, LT, SimL, ne_eq, Nat.reduceLT, SimA, Sim, SimH, frz, hget, hhas, List.getElem?_cons_zero, List.getElem?_cons_succ, List.getElem?_nil, BEq.rfl, if_true, reduceCtorEq, Option.some.injEq, Nat.reduceEqDiff, if_false, List.contains_cons, List.contains_nil, V.ok, V.get, V.fget, V.fhas, Nat.reduceLeDiff, implies_true, Nat.reduceBEq, Int.cast_ofNat_Int, dg]

theorem runs_Prove {M : Seat} (ok : OkA M) (f g : Nat → BitVec 64) (pc : BitVec 64) (hl : Bool) (e : BitVec 64) (i : Nat) (hi : i < 8192) :
    Runs M 50 [.imm (mach f g pc hl e), .int .u64 i] [] 0 (fun r H' k' => r = tup2 (.st 2 (.fcons 0 (W (f i)) (.fcons 1 (.sl 0 [] 0 13 32) .fnil))) .nili ∧ H' = [(0, .ar 32 13 (fun h => dg (memN f h ((i / 2 ^ h) ^^^ 1))))] ∧ k' = 1) := by
  refine runs_fr ok.k50 rfl fun x hx => ?_
  refine ex_sound 30 _ _ _ _ ?_
  have d1 : decide ((8192 : Int) ≤ i) = false := decide_eq_false (by omega)
  simp only [f50, c50, d1, veqP, veqV, LU, LP, ↓step_conv, ex, Ro, RoD, OpD, LD, step, vpick, vopt, optInt, isInt, elems, elemsOK, seval, reduceCtorEq]
  refine call_runs (runs_leaves ok f g pc hl e) False [] [] List.nodup_nil (by simp) rfl (by simp) (by simp only [SimA, SimV, mach, LT, SimL, ne_eq, Nat.reduceLT, SimA, Sim, SimH, frz, hget, hhas, List.getElem?_cons_zero, List.getElem?_cons_succ, List.getElem?_nil, BEq.rfl, if_true, reduceCtorEq, Option.some.injEq, Nat.reduceEqDiff, if_false, List.contains_cons, List.contains_nil, V.ok, V.get, V.fget, V.fhas, Nat.reduceLeDiff, implies_true, Nat.reduceBEq, Int.cast_ofNat_Int]) trivial ?_
  rintro v H' k' ⟨n, hn, hz, rfl, rfl, rfl⟩
  refine ⟨⟨by omega, fun h => h.elim⟩, ?_⟩
  have hnum : nums [] 144 1 = [144] := rfl
  have w1 : IntKind.i64.wrap (i : Int) = i := wrap_i64 (by omega)
  simp only [hnum, w1, LN, V.ren, renH, hrest, hdel, ren_lvV, List.getElem?_cons_zero, List.getElem?_cons_succ, List.append_nil, List.nil_append, List.cons_append, ne_eq, if_false, if_true, Nat.reduceEqDiff, reduceCtorEq]
  have hl13 : (lvs f n).length ≤ 2 ^ 13 := by rw [lvs_len]; omega
  refine call_runs (runs_Path ok 13 (by omega) (by omega) (lvs f n) hl13 i hi) False [] [144] List.nodup_nil (by simp) rfl (by simp) ⟨rfl, ?_, rfl, trivial⟩ trivial ?_
  · simp only [row, lvs_len, LT, SimL, ne_eq, Nat.reduceLT, SimA, Sim, SimH, frz, hget, hhas, List.getElem?_cons_zero, List.getElem?_cons_succ, List.getElem?_nil, BEq.rfl, if_true, reduceCtorEq, Option.some.injEq, Nat.reduceEqDiff, if_false, List.contains_cons, List.contains_nil, V.ok, V.get, V.fget, V.fhas, Nat.reduceLeDiff, implies_true, Nat.reduceBEq, Int.cast_ofNat_Int]
    intro j hj
    exact (lvs_at _ _ _ hj _).symm
  rintro v H' k' ⟨rfl, rfl, rfl⟩
  refine ⟨⟨by omega, fun h => h.elim⟩, ?_⟩
  have hnum2 : nums [] 192 1 = [192] := rfl
  simp only [hnum2, tup2, pathN, node_mem f n hn hz, LN, V.ren, renH, hrest, hdel, ren_lvV, List.getElem?_cons_zero, List.getElem?_cons_succ, List.append_nil, List.nil_append, List.cons_append, ne_eq, if_false, if_true, Nat.reduceEqDiff, reduceCtorEq]
  simp only [mach, LU, LP, ↓step_conv, ex, Ro, RoD, OpD, LD, step, vpick, vopt, optInt, isInt, elems, elemsOK, seval, reduceCtorEq]
  refine ⟨by omega, ?_⟩
  refine RetS.mk hx [192] [] (tup2 (.st 2 (.fcons 0 (W (f i)) (.fcons 1 (.sl 0 [] 0 13 32) .fnil))) .nili) [(0, .ar 32 13 (fun h => dg (memN f h ((i / 2 ^ h) ^^^ 1))))] 1 (by decide) ?_ ?_ ?_ ⟨rfl, rfl, rfl⟩
  · simp only [res, resPs, resP, tupP, resV, LU, LP, ↓step_conv, ex, Ro, RoD, OpD, LD, step, vpick, vopt, optInt, isInt, elems, elemsOK, seval, reduceCtorEq]
  · simp only [res, resV, tupV, tup2, tup3, LU, LP, ↓step_conv, ex, Ro, RoD, OpD, LD, step, vpick, vopt, optInt, isInt, elems, elemsOK, seval, reduceCtorEq, LT, SimL, ne_eq, Nat.reduceLT, SimA, Sim, SimH, frz, hget, hhas, List.getElem?_cons_zero, List.getElem?_cons_succ, List.getElem?_nil, BEq.rfl, if_true, reduceCtorEq, Option.some.injEq, Nat.reduceEqDiff, if_false, List.contains_cons, List.contains_nil, V.ok, V.get, V.fget, V.fhas, Nat.reduceLeDiff, implies_true, Nat.reduceBEq, Int.cast_ofNat_Int, dg]
  · simp only [LT, SimL, ne_eq, Nat.reduceLT, SimA, Sim, SimH, frz, hget, hhas, List.getElem?_cons_zero, List.getElem?_cons_succ, List.getElem?_nil, BEq.rfl, if_true, reduceCtorEq, Option.some.injEq, Nat.reduceEqDiff, if_false, List.contains_cons, List.contains_nil, V.ok, V.get, V.fget, V.fhas, Nat.reduceLeDiff, implies_true, Nat.reduceBEq, Int.cast_ofNat_Int]
end Mv
namespace Mv
open Go
set_option maxRecDepth 20000
set_option maxHeartbeats 4000000
set_option linter.unusedSimpArgs false

theorem SimV_row' (H : Hp) (m z : List Nat) (l : List Dg) (n : Nat) (hn : l.length = n) : SimV H m z (row l) (.lst 32 n (dgs l)) := by
  subst hn; exact SimV_row _ _ _ _

theorem eqP_nn (ts : List Nat) : veqP true (.iface ts) .nili .nili = True := by simp [veqP]
theorem eqV_nn (ts : List Nat) : veqV (.iface ts) .nili .nili = true := rfl
theorem eqP_in (c : Bool) (ts : List Nat) (t : Nat) (v : V) : veqP c (.iface ts) (.ifc t v) .nili = True := by simp [veqP]
theorem eqV_in (ts : List Nat) (t : Nat) (v : V) : veqV (.iface ts) (.ifc t v) .nili = false := by cases v <;> rfl
theorem eqP_pn (c : Bool) (i : Nat) (p : List Stp) : veqP c .ptr (.ptr i p) .nilp = True := by simp [veqP]
theorem eqV_pn (i : Nat) (p : List Stp) : veqV .ptr (.ptr i p) .nilp = false := rfl
theorem eqP_mn (c : Bool) (v : V) : veqP c .ptr (.imm v) .nilp = True := by simp [veqP]
theorem eqV_mn (v : V) : veqV .ptr (.imm v) .nilp = false := rfl

theorem runs_Holds {M : Seat} (ok : OkA M) (root : Dg) (i : Nat) (hi : i < 8192) (v : BitVec 64) (p : List Dg) (hp : p.length = 13) :
    Runs M 53 [dg root, .int .u64 i, .st 2 (.fcons 0 (W v) (.fcons 1 (.lst 32 13 (dgs p)) .fnil))] [] 0 (fun r H' k' => r = tup2 (.bool (decide (foldN i (leafD v) p 13 = root))) .nili ∧ H' = [] ∧ k' = 0) := by
  refine runs_fr ok.k53 rfl fun x hx => ?_
  refine ex_sound 30 _ _ _ _ ?_
  have d1 : decide ((8192 : Int) ≤ i) = false := decide_eq_false (by omega)
  have w1 : IntKind.i64.wrap (i : Int) = i := wrap_i64 (by omega)
  have d2 : (!decide ((13 : Int) = 13)) = false := rfl
  simp only [f53, c53, d1, d2, w1, LU, LP, ↓step_conv, ex, Ro, RoD, OpD, LD, step, vpick, vopt, optInt, isInt, elems, elemsOK, seval, reduceCtorEq, forall_const]
  refine ⟨_, _, call_pure (runs_leaf ok v) ⟨rfl, trivial⟩ rfl ⟨rfl, rfl⟩, ?_⟩
  simp only [LU, LP, ↓step_conv, ex, Ro, RoD, OpD, LD, step, vpick, vopt, optInt, isInt, elems, elemsOK, seval, reduceCtorEq, forall_const]
  have hf := runs_Fold ok i (leafD v) p (by omega) (by rw [hp]; omega)
  rw [hp] at hf
  refine ⟨_, _, call_pure hf ⟨rfl, (Sim_dg _ _ _ _ _).mpr rfl, SimV_row' _ _ _ _ _ hp, trivial⟩ rfl ⟨rfl, rfl⟩, ?_⟩
  by_cases he : foldN i (leafD v) p 13 = root
  · have d3 := decide_eq_true he
    simp (maxSteps := 2000000) only [tup2, eqP_nn, eqV_nn, d3, LU, LP, ↓step_conv, ex, Ro, RoD, OpD, LD, step, vpick, vopt, optInt, isInt, elems, elemsOK, seval, reduceCtorEq, forall_const]
    refine RetS.mk hx [] [] (tup2 (.bool true) .nili) [] 0 (by decide) ?_ ?_ trivial ⟨rfl, rfl, rfl⟩
    · simp only [res, resPs, resP, tupP, resV, LU, LP, ↓step_conv, ex, Ro, RoD, OpD, LD, step, vpick, vopt, optInt, isInt, elems, elemsOK, seval, reduceCtorEq, forall_const]
    · simp only [res, resV, tupV, tup2, tup3, LU, LP, ↓step_conv, ex, Ro, RoD, OpD, LD, step, vpick, vopt, optInt, isInt, elems, elemsOK, seval, reduceCtorEq, forall_const, LT, LP, SimL, SimA, Sim, SimH, frz, hget, hhas, V.ok, V.get, V.fget, V.fhas, seval, reduceCtorEq, implies_true, dg]
  · have d3 := decide_eq_false he
    simp (maxSteps := 2000000) only [tup2, eqP_nn, eqV_nn, d3, LU, LP, ↓step_conv, ex, Ro, RoD, OpD, LD, step, vpick, vopt, optInt, isInt, elems, elemsOK, seval, reduceCtorEq, forall_const]
    refine RetS.mk hx [] [] (tup2 (.bool false) .nili) [] 0 (by decide) ?_ ?_ trivial ⟨rfl, rfl, rfl⟩
    · simp only [res, resPs, resP, tupP, resV, LU, LP, ↓step_conv, ex, Ro, RoD, OpD, LD, step, vpick, vopt, optInt, isInt, elems, elemsOK, seval, reduceCtorEq, forall_const]
    · simp only [res, resV, tupV, tup2, tup3, LU, LP, ↓step_conv, ex, Ro, RoD, OpD, LD, step, vpick, vopt, optInt, isInt, elems, elemsOK, seval, reduceCtorEq, forall_const, LT, LP, SimL, SimA, Sim, SimH, frz, hget, hhas, V.ok, V.get, V.fget, V.fhas, seval, reduceCtorEq, implies_true, dg]

theorem runs_Write {M : Seat} (ok : OkA M) (root : Dg) (i : Nat) (hi : i < 8192) (v : BitVec 64) (p : List Dg) (hp : p.length = 13) (hh : foldN i (leafD v) p 13 = root) (u : BitVec 64) :
    Runs M 52 [dg root, .int .u64 i, .st 2 (.fcons 0 (W v) (.fcons 1 (.lst 32 13 (dgs p)) .fnil)), W u] [] 0 (fun r H' k' => r = tup2 (dg (foldN i (leafD u) p 13)) .nili ∧ H' = [] ∧ k' = 0) := by
  refine runs_fr ok.k52 rfl fun x hx => ?_
  refine ex_sound 30 _ _ _ _ ?_
  have w1 : IntKind.i64.wrap (i : Int) = i := wrap_i64 (by omega)
  simp only [f52, c52, w1, LU, LP, ↓step_conv, ex, Ro, RoD, OpD, LD, step, vpick, vopt, optInt, isInt, elems, elemsOK, seval, reduceCtorEq, forall_const]
  have hd := runs_Holds ok root i hi v p hp
  rw [decide_eq_true hh] at hd
  refine call_pure hd ⟨(Sim_dg _ _ _ _ _).mpr rfl, rfl, ?_, trivial⟩ rfl ?_
  · simp only [LT, LP, SimL, SimA, Sim, SimH, frz, hget, hhas, V.ok, V.get, V.fget, V.fhas, seval, reduceCtorEq, implies_true]
  simp (maxSteps := 2000000) only [tup2, veqP, veqV, LU, LP, ↓step_conv, ex, Ro, RoD, OpD, LD, step, vpick, vopt, optInt, isInt, elems, elemsOK, seval, reduceCtorEq, forall_const]
  refine ⟨_, _, call_pure (runs_leaf ok u) ⟨rfl, trivial⟩ rfl ⟨rfl, rfl⟩, ?_⟩
  simp only [LU, LP, ↓step_conv, ex, Ro, RoD, OpD, LD, step, vpick, vopt, optInt, isInt, elems, elemsOK, seval, reduceCtorEq, forall_const]
  have hf := runs_Fold ok i (leafD u) p (by omega) (by rw [hp]; omega)
  rw [hp] at hf
  refine ⟨_, _, call_pure hf ⟨rfl, (Sim_dg _ _ _ _ _).mpr rfl, SimV_row' _ _ _ _ _ hp, trivial⟩ rfl ⟨rfl, rfl⟩, ?_⟩
  simp (maxSteps := 2000000) only [tup2, veqP, veqV, LU, LP, ↓step_conv, ex, Ro, RoD, OpD, LD, step, vpick, vopt, optInt, isInt, elems, elemsOK, seval, reduceCtorEq, forall_const]
  refine RetS.mk hx [] [] (tup2 (dg (foldN i (leafD u) p 13)) .nili) [] 0 (by decide) ?_ ?_ trivial ⟨rfl, rfl, rfl⟩
  · simp only [res, resPs, resP, tupP, resV, LU, LP, ↓step_conv, ex, Ro, RoD, OpD, LD, step, vpick, vopt, optInt, isInt, elems, elemsOK, seval, reduceCtorEq, forall_const]
    rfl
  · simp only [res, resV, tupV, tup2, tup3, LU, LP, ↓step_conv, ex, Ro, RoD, OpD, LD, step, vpick, vopt, optInt, isInt, elems, elemsOK, seval, reduceCtorEq, forall_const, LT, LP, SimL, SimA, Sim, SimH, frz, hget, hhas, V.ok, V.get, V.fget, V.fhas, seval, reduceCtorEq, implies_true, dg]
end Mv
namespace Mv
open Go
set_option maxRecDepth 20000
set_option maxHeartbeats 4000000
set_option linter.unusedSimpArgs false

/-- The document's machine; its blocks. -/
def refm (m r : Nat) (pc : BitVec 64) (hl : Bool) (ex : BitVec 64) : V :=
  .st 5 (.fcons 0 (.sl m [] 0 8192 1) (.fcons 1 (.sl r [] 0 16 1) (.fcons 2 (W pc) (.fcons 3 (.bool hl) (.fcons 4 (W ex) .fnil)))))

theorem Sim_W0 (H : Hp) (m z : List Nat) : Sim H m z (W 0) (V.int .u64 0) = True := by simp only [W, Sim]; exact eq_true rfl

theorem runs_Load {M : Seat} (ok : OkA M) :
    Runs M 74 [.nils] [] 0 (fun r H' k' => r = tup2 (.ptr 0 []) .nili ∧ H' = [(0, mach (fun _ => 0) (fun _ => 0) 0 false 0)] ∧ k' = 1) := by
  refine runs_fr ok.k74 rfl fun x hx => ?_
  refine ex_sound 30 _ _ _ _ ?_
  have d1 : decide ((8192 : Int) < 0) = false := rfl
  simp only [f74, c74, d1, LU, ↓step_conv, ex, Ro, RoD, OpD, epk, epochs, Mv.hx, idsOK, bs, wmask, LK.isW, LK.isA, LK.isP, step, num, X.ev, List.cons_append, List.nil_append, ne_eq, Nat.reduceLT, Int.reduceLE, Int.reduceLT, Int.cast_ofNat_Int, Nat.reducePow, Nat.reduceAnd, Nat.reduceOr, Nat.reduceShiftRight, BEq.rfl, Int.reduceToNat, vpick, vopt, optInt, isInt, vbuild, vbuildOK, vcaps, vcapsOK, elems, elemsOK, List.length_cons, List.length_nil, hget, hset, hdel, hhas, padd, V.ok, V.get, V.set, V.fget, V.fhas, V.fset, noR, Z.v, Z.sz, if_true, if_false, ite_true, ite_false, cond_true, cond_false, reduceCtorEq, forall_const, Nat.reduceAdd, Nat.reduceMul, Nat.reduceSub, Nat.reduceBEq, Nat.reduceEqDiff, dropTo, List.map_cons, List.map_nil, List.filter_cons, List.filter_nil]
  refine RetS.mk hx [96] [] (tup2 (.ptr 0 []) .nili) [(0, mach (fun _ => 0) (fun _ => 0) 0 false 0)] 1 (by decide) ?_ ?_ ?_ ⟨rfl, rfl, rfl⟩
  · simp only [res, resPs, resP, tupP, resV, LU, ↓step_conv, ex, Ro, RoD, OpD, epk, epochs, Mv.hx, idsOK, bs, wmask, LK.isW, LK.isA, LK.isP, step, num, X.ev, List.cons_append, List.nil_append, ne_eq, Nat.reduceLT, Int.reduceLE, Int.reduceLT, Int.cast_ofNat_Int, Nat.reducePow, Nat.reduceAnd, Nat.reduceOr, Nat.reduceShiftRight, BEq.rfl, Int.reduceToNat, vpick, vopt, optInt, isInt, vbuild, vbuildOK, vcaps, vcapsOK, elems, elemsOK, List.length_cons, List.length_nil, hget, hset, hdel, hhas, padd, V.ok, V.get, V.set, V.fget, V.fhas, V.fset, noR, Z.v, Z.sz, if_true, if_false, ite_true, ite_false, cond_true, cond_false, reduceCtorEq, forall_const, Nat.reduceAdd, Nat.reduceMul, Nat.reduceSub, Nat.reduceBEq, Nat.reduceEqDiff, dropTo, List.map_cons, List.map_nil, List.filter_cons, List.filter_nil]
  · simp only [res, resV, tupV, tup2, tup3, LU, ↓step_conv, ex, Ro, RoD, OpD, epk, epochs, Mv.hx, idsOK, bs, wmask, LK.isW, LK.isA, LK.isP, step, num, X.ev, List.cons_append, List.nil_append, ne_eq, Nat.reduceLT, Int.reduceLE, Int.reduceLT, Int.cast_ofNat_Int, Nat.reducePow, Nat.reduceAnd, Nat.reduceOr, Nat.reduceShiftRight, BEq.rfl, Int.reduceToNat, vpick, vopt, optInt, isInt, vbuild, vbuildOK, vcaps, vcapsOK, elems, elemsOK, List.length_cons, List.length_nil, hget, hset, hdel, hhas, padd, V.ok, V.get, V.set, V.fget, V.fhas, V.fset, noR, Z.v, Z.sz, if_true, if_false, ite_true, ite_false, cond_true, cond_false, reduceCtorEq, forall_const, Nat.reduceAdd, Nat.reduceMul, Nat.reduceSub, Nat.reduceBEq, Nat.reduceEqDiff, dropTo, List.map_cons, List.map_nil, List.filter_cons, List.filter_nil, LT, SimL, ne_eq, Nat.reduceLT, SimA, Sim, SimH, frz, hget, hhas, List.getElem?_cons_zero, List.getElem?_cons_succ, List.getElem?_nil, BEq.rfl, if_true, reduceCtorEq, Option.some.injEq, Nat.reduceEqDiff, if_false, List.contains_cons, List.contains_nil, V.ok, V.get, V.fget, V.fhas, Nat.reduceLeDiff, implies_true, Nat.reduceBEq, Int.cast_ofNat_Int, dg]
  · simp only [mach, Sim_W0, LT, SimL, ne_eq, Nat.reduceLT, SimA, Sim, SimH, frz, hget, hhas, List.getElem?_cons_zero, List.getElem?_cons_succ, List.getElem?_nil, BEq.rfl, if_true, reduceCtorEq, Option.some.injEq, Nat.reduceEqDiff, if_false, List.contains_cons, List.contains_nil, V.ok, V.get, V.fget, V.fhas, Nat.reduceLeDiff, implies_true, Nat.reduceBEq, Int.cast_ofNat_Int]

theorem runs_refLoad {M : Seat} (ok : OkA M) :
    Runs M 196 [.nils] [] 0 (fun r H' k' => r = .ptr 0 [] ∧ H' = [(0, refm 1 2 0 false 0), (1, .ar 1 8192 (fun _ => W 0)), (2, .ar 1 16 (fun _ => W 0))] ∧ k' = 3) := by
  refine runs_fr ok.k196 rfl fun x hx => ?_
  refine ex_sound 30 _ _ _ _ ?_
  simp only [f196, c196, LU, ↓step_conv, ex, Ro, RoD, OpD, epk, epochs, Mv.hx, idsOK, bs, wmask, LK.isW, LK.isA, LK.isP, step, num, X.ev, List.cons_append, List.nil_append, ne_eq, Nat.reduceLT, Int.reduceLE, Int.reduceLT, Int.cast_ofNat_Int, Nat.reducePow, Nat.reduceAnd, Nat.reduceOr, Nat.reduceShiftRight, BEq.rfl, Int.reduceToNat, vpick, vopt, optInt, isInt, vbuild, vbuildOK, vcaps, vcapsOK, elems, elemsOK, List.length_cons, List.length_nil, hget, hset, hdel, hhas, padd, V.ok, V.get, V.set, V.fget, V.fhas, V.fset, noR, Z.v, Z.sz, if_true, if_false, ite_true, ite_false, cond_true, cond_false, reduceCtorEq, forall_const, Nat.reduceAdd, Nat.reduceMul, Nat.reduceSub, Nat.reduceBEq, Nat.reduceEqDiff, dropTo, List.map_cons, List.map_nil, List.filter_cons, List.filter_nil]
  refine ⟨by omega, by omega, ?_⟩
  refine RetS.mk hx [64, 16, 32] [] (.ptr 0 []) [(0, refm 1 2 0 false 0), (1, .ar 1 8192 (fun _ => W 0)), (2, .ar 1 16 (fun _ => W 0))] 3 (by decide) ?_ ?_ ?_ ⟨rfl, rfl, rfl⟩
  · simp only [res, resPs, resP, tupP, resV, LU, ↓step_conv, ex, Ro, RoD, OpD, epk, epochs, Mv.hx, idsOK, bs, wmask, LK.isW, LK.isA, LK.isP, step, num, X.ev, List.cons_append, List.nil_append, ne_eq, Nat.reduceLT, Int.reduceLE, Int.reduceLT, Int.cast_ofNat_Int, Nat.reducePow, Nat.reduceAnd, Nat.reduceOr, Nat.reduceShiftRight, BEq.rfl, Int.reduceToNat, vpick, vopt, optInt, isInt, vbuild, vbuildOK, vcaps, vcapsOK, elems, elemsOK, List.length_cons, List.length_nil, hget, hset, hdel, hhas, padd, V.ok, V.get, V.set, V.fget, V.fhas, V.fset, noR, Z.v, Z.sz, if_true, if_false, ite_true, ite_false, cond_true, cond_false, reduceCtorEq, forall_const, Nat.reduceAdd, Nat.reduceMul, Nat.reduceSub, Nat.reduceBEq, Nat.reduceEqDiff, dropTo, List.map_cons, List.map_nil, List.filter_cons, List.filter_nil]
  · simp only [res, resV, tupV, tup2, tup3, LU, ↓step_conv, ex, Ro, RoD, OpD, epk, epochs, Mv.hx, idsOK, bs, wmask, LK.isW, LK.isA, LK.isP, step, num, X.ev, List.cons_append, List.nil_append, ne_eq, Nat.reduceLT, Int.reduceLE, Int.reduceLT, Int.cast_ofNat_Int, Nat.reducePow, Nat.reduceAnd, Nat.reduceOr, Nat.reduceShiftRight, BEq.rfl, Int.reduceToNat, vpick, vopt, optInt, isInt, vbuild, vbuildOK, vcaps, vcapsOK, elems, elemsOK, List.length_cons, List.length_nil, hget, hset, hdel, hhas, padd, V.ok, V.get, V.set, V.fget, V.fhas, V.fset, noR, Z.v, Z.sz, if_true, if_false, ite_true, ite_false, cond_true, cond_false, reduceCtorEq, forall_const, Nat.reduceAdd, Nat.reduceMul, Nat.reduceSub, Nat.reduceBEq, Nat.reduceEqDiff, dropTo, List.map_cons, List.map_nil, List.filter_cons, List.filter_nil, LT, SimL, ne_eq, Nat.reduceLT, SimA, Sim, SimH, frz, hget, hhas, List.getElem?_cons_zero, List.getElem?_cons_succ, List.getElem?_nil, BEq.rfl, if_true, reduceCtorEq, Option.some.injEq, Nat.reduceEqDiff, if_false, List.contains_cons, List.contains_nil, V.ok, V.get, V.fget, V.fhas, Nat.reduceLeDiff, implies_true, Nat.reduceBEq, Int.cast_ofNat_Int, dg]
  · simp only [refm, Sim_W0, LT, SimL, ne_eq, Nat.reduceLT, SimA, Sim, SimH, frz, hget, hhas, List.getElem?_cons_zero, List.getElem?_cons_succ, List.getElem?_nil, BEq.rfl, if_true, reduceCtorEq, Option.some.injEq, Nat.reduceEqDiff, if_false, List.contains_cons, List.contains_nil, V.ok, V.get, V.fget, V.fhas, Nat.reduceLeDiff, implies_true, Nat.reduceBEq, Int.cast_ofNat_Int]

theorem runs_Copy {M : Seat} (ok : OkA M) (f g : Nat → BitVec 64) (pc : BitVec 64) (hl : Bool) (e : BitVec 64) :
    Runs M 49 [.imm (mach f g pc hl e)] [] 0 (fun r H' k' => r = .ptr 0 [] ∧ H' = [(0, mach f g pc hl e)] ∧ k' = 1) := by
  refine runs_fr ok.k49 rfl fun x hx => ?_
  refine ex_sound 30 _ _ _ _ ?_
  simp only [f49, c49, mach, eqP_mn, eqV_mn, LU, ↓step_conv, ex, Ro, RoD, OpD, epk, epochs, Mv.hx, idsOK, bs, wmask, LK.isW, LK.isA, LK.isP, step, num, X.ev, List.cons_append, List.nil_append, ne_eq, Nat.reduceLT, Int.reduceLE, Int.reduceLT, Int.cast_ofNat_Int, Nat.reducePow, Nat.reduceAnd, Nat.reduceOr, Nat.reduceShiftRight, BEq.rfl, Int.reduceToNat, vpick, vopt, optInt, isInt, vbuild, vbuildOK, vcaps, vcapsOK, elems, elemsOK, List.length_cons, List.length_nil, hget, hset, hdel, hhas, padd, V.ok, V.get, V.set, V.fget, V.fhas, V.fset, noR, Z.v, Z.sz, if_true, if_false, ite_true, ite_false, cond_true, cond_false, reduceCtorEq, forall_const, Nat.reduceAdd, Nat.reduceMul, Nat.reduceSub, Nat.reduceBEq, Nat.reduceEqDiff, dropTo, List.map_cons, List.map_nil, List.filter_cons, List.filter_nil]
  refine RetS.mk hx [96] [] (.ptr 0 []) [(0, mach f g pc hl e)] 1 (by decide) ?_ ?_ ?_ ⟨rfl, rfl, rfl⟩
  · simp only [res, resPs, resP, tupP, resV, LU, ↓step_conv, ex, Ro, RoD, OpD, epk, epochs, Mv.hx, idsOK, bs, wmask, LK.isW, LK.isA, LK.isP, step, num, X.ev, List.cons_append, List.nil_append, ne_eq, Nat.reduceLT, Int.reduceLE, Int.reduceLT, Int.cast_ofNat_Int, Nat.reducePow, Nat.reduceAnd, Nat.reduceOr, Nat.reduceShiftRight, BEq.rfl, Int.reduceToNat, vpick, vopt, optInt, isInt, vbuild, vbuildOK, vcaps, vcapsOK, elems, elemsOK, List.length_cons, List.length_nil, hget, hset, hdel, hhas, padd, V.ok, V.get, V.set, V.fget, V.fhas, V.fset, noR, Z.v, Z.sz, if_true, if_false, ite_true, ite_false, cond_true, cond_false, reduceCtorEq, forall_const, Nat.reduceAdd, Nat.reduceMul, Nat.reduceSub, Nat.reduceBEq, Nat.reduceEqDiff, dropTo, List.map_cons, List.map_nil, List.filter_cons, List.filter_nil]
  · simp only [res, resV, tupV, tup2, tup3, LU, ↓step_conv, ex, Ro, RoD, OpD, epk, epochs, Mv.hx, idsOK, bs, wmask, LK.isW, LK.isA, LK.isP, step, num, X.ev, List.cons_append, List.nil_append, ne_eq, Nat.reduceLT, Int.reduceLE, Int.reduceLT, Int.cast_ofNat_Int, Nat.reducePow, Nat.reduceAnd, Nat.reduceOr, Nat.reduceShiftRight, BEq.rfl, Int.reduceToNat, vpick, vopt, optInt, isInt, vbuild, vbuildOK, vcaps, vcapsOK, elems, elemsOK, List.length_cons, List.length_nil, hget, hset, hdel, hhas, padd, V.ok, V.get, V.set, V.fget, V.fhas, V.fset, noR, Z.v, Z.sz, if_true, if_false, ite_true, ite_false, cond_true, cond_false, reduceCtorEq, forall_const, Nat.reduceAdd, Nat.reduceMul, Nat.reduceSub, Nat.reduceBEq, Nat.reduceEqDiff, dropTo, List.map_cons, List.map_nil, List.filter_cons, List.filter_nil, LT, SimL, ne_eq, Nat.reduceLT, SimA, Sim, SimH, frz, hget, hhas, List.getElem?_cons_zero, List.getElem?_cons_succ, List.getElem?_nil, BEq.rfl, if_true, reduceCtorEq, Option.some.injEq, Nat.reduceEqDiff, if_false, List.contains_cons, List.contains_nil, V.ok, V.get, V.fget, V.fhas, Nat.reduceLeDiff, implies_true, Nat.reduceBEq, Int.cast_ofNat_Int, dg]
  · simp only [mach, LT, SimL, ne_eq, Nat.reduceLT, SimA, Sim, SimH, frz, hget, hhas, List.getElem?_cons_zero, List.getElem?_cons_succ, List.getElem?_nil, BEq.rfl, if_true, reduceCtorEq, Option.some.injEq, Nat.reduceEqDiff, if_false, List.contains_cons, List.contains_nil, V.ok, V.get, V.fget, V.fhas, Nat.reduceLeDiff, implies_true, Nat.reduceBEq, Int.cast_ofNat_Int]
end Mv
