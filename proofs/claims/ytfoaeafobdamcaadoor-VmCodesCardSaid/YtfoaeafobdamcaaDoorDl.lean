/- The closure of CommitOrder. -/
import Derived.Test.YtfoaeafobdamcaaDoorDk
import Derived.Test.YtfoaeafobdamcaaDoorT
set_option linter.unusedSimpArgs false
set_option linter.unusedVariables false
namespace Mv
open Go
set_option maxRecDepth 20000
set_option maxHeartbeats 4000000
set_option linter.unusedSimpArgs false

theorem NoIm_mach (f g : Nat → BitVec 64) (pc : BitVec 64) (hl : Bool) (xt : BitVec 64) : NoIm (mach f g pc hl xt) := by
  simp [mach, NoIm, W]
theorem ren_mach (m : List Nat) (f g : Nat → BitVec 64) (pc : BitVec 64) (hl : Bool) (xt : BitVec 64) : (mach f g pc hl xt).ren m = mach f g pc hl xt := rfl
theorem solid_mach (f g : Nat → BitVec 64) (pc : BitVec 64) (hl : Bool) (xt : BitVec 64) : (mach f g pc hl xt).solid = true := rfl
theorem Sim_mach (H : Hp) (m z : List Nat) (f g : Nat → BitVec 64) (pc : BitVec 64) (hl : Bool) (xt : BitVec 64) : Sim H m z (mach f g pc hl xt) (mach f g pc hl xt) := by
  simp only [mach, LT, SimL, ne_eq, Nat.reduceLT, SimA, Sim, SimH, frz, hget, hhas, List.getElem?_cons_zero, List.getElem?_cons_succ, List.getElem?_nil, BEq.rfl, if_true, reduceCtorEq, Option.some.injEq, Nat.reduceEqDiff, if_false, List.contains_cons, List.contains_nil, V.ok, V.get, V.fget, V.fhas, Nat.reduceLeDiff, implies_true, Nat.reduceBEq, Int.cast_ofNat_Int]

/-- The path of a word. -/
def pth (f : Nat → BitVec 64) (i : Nat) : List Dg := (List.range 13).map (fun h => memN f h ((i / 2 ^ h) ^^^ 1))
theorem pth_at (f : Nat → BitVec 64) (i j : Nat) (hj : j < 13) : (pth f i).getD j Dg.zero = memN f j ((i / 2 ^ j) ^^^ 1) := by
  simp [pth, List.getD, List.getElem?_map, List.getElem?_range hj]

theorem xor1_even {n : Nat} (h : n % 2 = 0) : n ^^^ 1 = n + 1 := by
  have h1 : (n ^^^ 1) / 2 = n / 2 := by rw [Nat.xor_div_two]; simp
  have h2 := @Nat.xor_mod_two_eq_one n 1
  omega
theorem xor1_odd {n : Nat} (h : n % 2 ≠ 0) : n ^^^ 1 = n - 1 := by
  have h1 : (n ^^^ 1) / 2 = n / 2 := by rw [Nat.xor_div_two]; simp
  have h2 := @Nat.xor_mod_two_eq_one n 1
  omega

/-- A memory with another word. -/
def upd (f : Nat → BitVec 64) (i : Nat) (v : BitVec 64) (j : Nat) : BitVec 64 := if j = i then v else f j
theorem memN_off (f : Nat → BitVec 64) (i : Nat) (v : BitVec 64) : ∀ q s, s ≠ i / 2 ^ q → memN (upd f i v) q s = memN f q s
  | 0, s, h => by
    have h : s ≠ i := by simpa using h
    simp only [memN, upd, if_neg h]
  | q + 1, s, h => by
    rw [div_pow] at h
    rw [memN, memN, memN_off f i v q _ (by omega), memN_off f i v q _ (by omega)]
theorem fold_mem (f : Nat → BitVec 64) (i : Nat) (hi : i < 8192) (v : BitVec 64) : ∀ q, q ≤ 13 → foldN i (leafD v) (pth f i) q = memN (upd f i v) q (i / 2 ^ q)
  | 0, _ => by simp [foldN, memN, upd, hi]
  | q + 1, h => by
    rw [foldN, fold_mem f i hi v q (by omega), pth_at _ _ _ (by omega), memN, div_pow]
    by_cases he : i / 2 ^ q % 2 = 0
    · rw [if_pos he, xor1_even he]
      have e1 : 2 * (i / 2 ^ q / 2) = i / 2 ^ q := by omega
      rw [e1, memN_off f i v q (i / 2 ^ q + 1) (by omega)]
    · rw [if_neg he, xor1_odd he]
      have e1 : 2 * (i / 2 ^ q / 2) + 1 = i / 2 ^ q := by omega
      have e2 : 2 * (i / 2 ^ q / 2) = i / 2 ^ q - 1 := by omega
      rw [e1, e2, memN_off f i v q (i / 2 ^ q - 1) (by omega)]
theorem upd_same (f : Nat → BitVec 64) (i : Nat) : upd f i (f i) = f := by
  funext j; unfold upd; split
  · rename_i h; rw [h]
  · rfl
theorem fold_self (f : Nat → BitVec 64) (i : Nat) (hi : i < 8192) : foldN i (leafD (f i)) (pth f i) 13 = memN f 13 0 := by
  rw [fold_mem f i hi (f i) 13 (by omega), upd_same, Nat.div_eq_of_lt (by omega)]
theorem fold_upd (f : Nat → BitVec 64) (i : Nat) (hi : i < 8192) (v : BitVec 64) : foldN i (leafD v) (pth f i) 13 = memN (upd f i v) 13 0 := by
  rw [fold_mem f i hi v 13 (by omega), Nat.div_eq_of_lt (by omega)]

/-- A call of what takes no blocks and leaves none; 'z': blocks that it may look at; they are the caller's again. -/
theorem call_pureL {M : Seat} {f : Nat} {us us0 : List V} {H : Hp} {n : Nat} {K : V → Hp → Prop} {v : V} (z : List Nat) (hr : Runs M f us0 [] 0 (fun r H' k' => r = v ∧ H' = [] ∧ k' = 0)) (hus : SimA H [] z us0 us) (hv : v.ren (nums [] n 0) = v) (hn : NoIm v) (hK : K v H) : CallK M f us H n K := by
  refine call_runs hr True [] z List.nodup_nil (by simp) rfl (by simp) hus trivial ?_
  rintro v' H' k' ⟨rfl, rfl, rfl⟩
  refine ⟨⟨by omega, fun _ => ⟨hn, fun id h => by simp [hhas] at h⟩⟩, ?_⟩
  rw [hv]
  simpa [renH, hrest] using hK
end Mv
namespace Mv
open Go
set_option maxRecDepth 20000
set_option maxHeartbeats 4000000
set_option linter.unusedSimpArgs false

theorem memN_zero : ∀ h q, memN (fun _ => 0) h q = nought h
  | 0, q => by simp only [memN, leafD_0, ite_self]; rfl
  | h + 1, q => by rw [memN, memN_zero h, memN_zero h]; rfl

theorem runs_fixed {M : Seat} (ok : OkA M) (hne : foldN 5 (leafD 1) (pth (fun _ => 0) 5) 13 ≠ nought 13) :
    Runs M 47 [] [] 0 (fun r H' k' => r = .bool true ∧ H' = [] ∧ k' = 0) := by
  refine runs_fr ok.k47 rfl fun x hx => ?_
  refine ex_sound 13 _ _ _ _ ?_
  simp only [f47, c47, eqP_in, eqP_mn, eqP_nn, eqP_pn, eqV_in, eqV_mn, eqV_nn, eqV_pn, LU, ↓step_conv, ex, Ro, RoD, OpD, epk, epochs, Mv.hx, idsOK, bs, wmask, LK.isW, LK.isA, LK.isP, step, num, X.ev, List.cons_append, List.nil_append, ne_eq, Nat.reduceLT, Int.reduceLE, Int.reduceLT, Int.cast_ofNat_Int, Nat.reducePow, Nat.reduceAnd, Nat.reduceOr, Nat.reduceShiftRight, BEq.rfl, Int.reduceToNat, vpick, vopt, optInt, isInt, vbuild, vbuildOK, vcaps, vcapsOK, elems, elemsOK, List.length_cons, List.length_nil, hget, hset, hdel, hhas, padd, V.ok, V.get, V.set, V.fget, V.fhas, V.fset, noR, Z.v, Z.sz, if_true, if_false, ite_true, ite_false, cond_true, cond_false, reduceCtorEq, forall_const, Nat.reduceAdd, Nat.reduceMul, Nat.reduceSub, Nat.reduceBEq, Nat.reduceEqDiff, dropTo, List.map_cons, List.map_nil, List.filter_cons, List.filter_nil]
  have hl := runs_laid ok [] .nils (.inr ⟨rfl, rfl⟩) (by simp) [] .nils (.inr ⟨rfl, rfl⟩) (by simp) 0 false 0
  refine call_runs hl False [] [] List.nodup_nil (by simp) rfl (by simp) (by simp only [SimA, W_0, LT, SimL, ne_eq, Nat.reduceLT, SimA, Sim, SimH, frz, hget, hhas, List.getElem?_cons_zero, List.getElem?_cons_succ, List.getElem?_nil, BEq.rfl, if_true, reduceCtorEq, Option.some.injEq, Nat.reduceEqDiff, if_false, List.contains_cons, List.contains_nil, V.ok, V.get, V.fget, V.fhas, Nat.reduceLeDiff, implies_true, Nat.reduceBEq, Int.cast_ofNat_Int]) trivial ?_
  rintro r H' k' ⟨rfl, rfl, rfl⟩
  refine ⟨⟨by omega, fun h => h.elim⟩, ?_⟩
  have hnum : nums [] 16 4 = [16, 17, 18, 19] := rfl
  have e0 : memF [] (min ([] : List (BitVec 64 × BitVec 64)).length 100) = fun _ => 0 := rfl
  have e1 : regF [] (min ([] : List (BitVec 64)).length 16) = fun _ => 0 := by funext j; simp [regF]
  simp only [hnum, e0, e1, laidH, tup2, refm, ren_mach, LN, V.ren, renH, hrest, hdel, ren_lvV, List.getElem?_cons_zero, List.getElem?_cons_succ, List.append_nil, List.nil_append, List.cons_append, ne_eq, if_false, if_true, Nat.reduceEqDiff, reduceCtorEq]
  simp only [LU, ↓step_conv, ex, Ro, RoD, OpD, epk, epochs, Mv.hx, idsOK, bs, wmask, LK.isW, LK.isA, LK.isP, step, num, X.ev, List.cons_append, List.nil_append, ne_eq, Nat.reduceLT, Int.reduceLE, Int.reduceLT, Int.cast_ofNat_Int, Nat.reducePow, Nat.reduceAnd, Nat.reduceOr, Nat.reduceShiftRight, BEq.rfl, Int.reduceToNat, vpick, vopt, optInt, isInt, vbuild, vbuildOK, vcaps, vcapsOK, elems, elemsOK, List.length_cons, List.length_nil, hget, hset, hdel, hhas, padd, V.ok, V.get, V.set, V.fget, V.fhas, V.fset, noR, Z.v, Z.sz, if_true, if_false, ite_true, ite_false, cond_true, cond_false, reduceCtorEq, forall_const, Nat.reduceAdd, Nat.reduceMul, Nat.reduceSub, Nat.reduceBEq, Nat.reduceEqDiff, dropTo, List.map_cons, List.map_nil, List.filter_cons, List.filter_nil]
  refine call_pure (runs_Zero ok 13 (by omega)) ⟨rfl, trivial⟩ rfl ?_
  simp only [tup2, eqP_in, eqP_mn, eqP_nn, eqP_pn, eqV_in, eqV_mn, eqV_nn, eqV_pn, LU, ↓step_conv, ex, Ro, RoD, OpD, epk, epochs, Mv.hx, idsOK, bs, wmask, LK.isW, LK.isA, LK.isP, step, num, X.ev, List.cons_append, List.nil_append, ne_eq, Nat.reduceLT, Int.reduceLE, Int.reduceLT, Int.cast_ofNat_Int, Nat.reducePow, Nat.reduceAnd, Nat.reduceOr, Nat.reduceShiftRight, BEq.rfl, Int.reduceToNat, vpick, vopt, optInt, isInt, vbuild, vbuildOK, vcaps, vcapsOK, elems, elemsOK, List.length_cons, List.length_nil, hget, hset, hdel, hhas, padd, V.ok, V.get, V.set, V.fget, V.fhas, V.fset, noR, Z.v, Z.sz, if_true, if_false, ite_true, ite_false, cond_true, cond_false, reduceCtorEq, forall_const, Nat.reduceAdd, Nat.reduceMul, Nat.reduceSub, Nat.reduceBEq, Nat.reduceEqDiff, dropTo, List.map_cons, List.map_nil, List.filter_cons, List.filter_nil]
  refine call_pureL [16] (runs_cRoot ok (fun _ => 0) (fun _ => 0) 0 false 0) (by simp only [SimA, SimV_imm, Sim_mach, solid_mach, LT, SimL, ne_eq, Nat.reduceLT, SimA, Sim, SimH, frz, hget, hhas, List.getElem?_cons_zero, List.getElem?_cons_succ, List.getElem?_nil, BEq.rfl, if_true, reduceCtorEq, Option.some.injEq, Nat.reduceEqDiff, if_false, List.contains_cons, List.contains_nil, V.ok, V.get, V.fget, V.fhas, Nat.reduceLeDiff, implies_true, Nat.reduceBEq, Int.cast_ofNat_Int]) rfl (by simp only [tup2, NoIm, dg, B, implies_true, and_self]) ?_
  simp only [tup2, eqP_in, eqP_mn, eqP_nn, eqP_pn, eqV_in, eqV_mn, eqV_nn, eqV_pn, LU, ↓step_conv, ex, Ro, RoD, OpD, epk, epochs, Mv.hx, idsOK, bs, wmask, LK.isW, LK.isA, LK.isP, step, num, X.ev, List.cons_append, List.nil_append, ne_eq, Nat.reduceLT, Int.reduceLE, Int.reduceLT, Int.cast_ofNat_Int, Nat.reducePow, Nat.reduceAnd, Nat.reduceOr, Nat.reduceShiftRight, BEq.rfl, Int.reduceToNat, vpick, vopt, optInt, isInt, vbuild, vbuildOK, vcaps, vcapsOK, elems, elemsOK, List.length_cons, List.length_nil, hget, hset, hdel, hhas, padd, V.ok, V.get, V.set, V.fget, V.fhas, V.fset, noR, Z.v, Z.sz, if_true, if_false, ite_true, ite_false, cond_true, cond_false, reduceCtorEq, forall_const, Nat.reduceAdd, Nat.reduceMul, Nat.reduceSub, Nat.reduceBEq, Nat.reduceEqDiff, dropTo, List.map_cons, List.map_nil, List.filter_cons, List.filter_nil]
  (refine ex_sound 8 _ _ _ _ ?_; simp (maxSteps := 2000000) only [eqP_in, eqP_mn, eqP_nn, eqP_pn, eqV_in, eqV_mn, eqV_nn, eqV_pn, LU, ↓step_conv, ex, Ro, RoD, OpD, epk, epochs, Mv.hx, idsOK, bs, wmask, LK.isW, LK.isA, LK.isP, step, num, X.ev, List.cons_append, List.nil_append, ne_eq, Nat.reduceLT, Int.reduceLE, Int.reduceLT, Int.cast_ofNat_Int, Nat.reducePow, Nat.reduceAnd, Nat.reduceOr, Nat.reduceShiftRight, BEq.rfl, Int.reduceToNat, vpick, vopt, optInt, isInt, vbuild, vbuildOK, vcaps, vcapsOK, elems, elemsOK, List.length_cons, List.length_nil, hget, hset, hdel, hhas, padd, V.ok, V.get, V.set, V.fget, V.fhas, V.fset, noR, Z.v, Z.sz, if_true, if_false, ite_true, ite_false, cond_true, cond_false, reduceCtorEq, forall_const, Nat.reduceAdd, Nat.reduceMul, Nat.reduceSub, Nat.reduceBEq, Nat.reduceEqDiff, dropTo, List.map_cons, List.map_nil, List.filter_cons, List.filter_nil])
  refine call_runs (runs_Prove ok (fun _ => 0) (fun _ => 0) 0 false 0 5 (by omega)) True [] [16] List.nodup_nil (by simp) rfl (by simp) (by simp only [SimA, SimV_imm, SimV_int, Sim_mach, solid_mach, Int.cast_ofNat_Int, LT, SimL, ne_eq, Nat.reduceLT, SimA, Sim, SimH, frz, hget, hhas, List.getElem?_cons_zero, List.getElem?_cons_succ, List.getElem?_nil, BEq.rfl, if_true, reduceCtorEq, Option.some.injEq, Nat.reduceEqDiff, if_false, List.contains_cons, List.contains_nil, V.ok, V.get, V.fget, V.fhas, Nat.reduceLeDiff, implies_true, Nat.reduceBEq, Int.cast_ofNat_Int]) trivial ?_
  rintro r H' k' ⟨rfl, rfl, rfl⟩
  refine ⟨⟨by omega, fun _ => ⟨by simp only [tup2, NoIm, W, and_self], ?_⟩⟩, ?_⟩
  · intro id hid
    simp only [hhas, Bool.or_false, beq_iff_eq] at hid
    subst hid
    simp only [hget, if_true, NoIm, dg, B, implies_true]
  have hnum2 : nums [] 464 1 = [464] := rfl
  simp only [hnum2, tup2, memN_zero, ren_mach, LN, V.ren, renH, hrest, hdel, ren_lvV, List.getElem?_cons_zero, List.getElem?_cons_succ, List.append_nil, List.nil_append, List.cons_append, ne_eq, if_false, if_true, Nat.reduceEqDiff, reduceCtorEq]
  simp only [LU, ↓step_conv, ex, Ro, RoD, OpD, epk, epochs, Mv.hx, idsOK, bs, wmask, LK.isW, LK.isA, LK.isP, step, num, X.ev, List.cons_append, List.nil_append, ne_eq, Nat.reduceLT, Int.reduceLE, Int.reduceLT, Int.cast_ofNat_Int, Nat.reducePow, Nat.reduceAnd, Nat.reduceOr, Nat.reduceShiftRight, BEq.rfl, Int.reduceToNat, vpick, vopt, optInt, isInt, vbuild, vbuildOK, vcaps, vcapsOK, elems, elemsOK, List.length_cons, List.length_nil, hget, hset, hdel, hhas, padd, V.ok, V.get, V.set, V.fget, V.fhas, V.fset, noR, Z.v, Z.sz, if_true, if_false, ite_true, ite_false, cond_true, cond_false, reduceCtorEq, forall_const, Nat.reduceAdd, Nat.reduceMul, Nat.reduceSub, Nat.reduceBEq, Nat.reduceEqDiff, dropTo, List.map_cons, List.map_nil, List.filter_cons, List.filter_nil]
  have hlen : (pth (fun _ => 0) 5).length = 13 := by simp [pth]
  have hpath : ∀ j, j < 13 → nought j = (pth (fun _ => 0) 5).getD j Dg.zero := fun j hj => by rw [pth_at _ _ _ hj, memN_zero]
  have hH := runs_Holds ok (nought 13) 5 (by omega) 0 (pth (fun _ => 0) 5) hlen
  have hf : foldN 5 (leafD 0) (pth (fun _ => 0) 5) 13 = nought 13 := by rw [← memN_zero 13 0]; exact fold_self (fun _ => 0) 5 (by omega)
  rw [decide_eq_true hf] at hH
  refine call_pureL [464] hH ?_ rfl (by simp only [tup2, NoIm, and_self]) ?_
  · simp only [SimA, Int.cast_ofNat_Int, LT, SimL, ne_eq, Nat.reduceLT, SimA, Sim, SimH, frz, hget, hhas, List.getElem?_cons_zero, List.getElem?_cons_succ, List.getElem?_nil, BEq.rfl, if_true, reduceCtorEq, Option.some.injEq, Nat.reduceEqDiff, if_false, List.contains_cons, List.contains_nil, V.ok, V.get, V.fget, V.fhas, Nat.reduceLeDiff, implies_true, Nat.reduceBEq, Int.cast_ofNat_Int]
    exact hpath
  simp only [tup2, eqP_in, eqP_mn, eqP_nn, eqP_pn, eqV_in, eqV_mn, eqV_nn, eqV_pn, LU, ↓step_conv, ex, Ro, RoD, OpD, epk, epochs, Mv.hx, idsOK, bs, wmask, LK.isW, LK.isA, LK.isP, step, num, X.ev, List.cons_append, List.nil_append, ne_eq, Nat.reduceLT, Int.reduceLE, Int.reduceLT, Int.cast_ofNat_Int, Nat.reducePow, Nat.reduceAnd, Nat.reduceOr, Nat.reduceShiftRight, BEq.rfl, Int.reduceToNat, vpick, vopt, optInt, isInt, vbuild, vbuildOK, vcaps, vcapsOK, elems, elemsOK, List.length_cons, List.length_nil, hget, hset, hdel, hhas, padd, V.ok, V.get, V.set, V.fget, V.fhas, V.fset, noR, Z.v, Z.sz, if_true, if_false, ite_true, ite_false, cond_true, cond_false, reduceCtorEq, forall_const, Nat.reduceAdd, Nat.reduceMul, Nat.reduceSub, Nat.reduceBEq, Nat.reduceEqDiff, dropTo, List.map_cons, List.map_nil, List.filter_cons, List.filter_nil]
  have hH2 := runs_Holds ok (nought 13) 5 (by omega) 1 (pth (fun _ => 0) 5) hlen
  rw [decide_eq_false hne] at hH2
  have h1 : V.int .u64 1 = W 1 := rfl
  refine call_pureL [464] hH2 ?_ rfl (by simp only [tup2, NoIm, and_self]) ?_
  · simp only [SimA, h1, Int.cast_ofNat_Int, LT, SimL, ne_eq, Nat.reduceLT, SimA, Sim, SimH, frz, hget, hhas, List.getElem?_cons_zero, List.getElem?_cons_succ, List.getElem?_nil, BEq.rfl, if_true, reduceCtorEq, Option.some.injEq, Nat.reduceEqDiff, if_false, List.contains_cons, List.contains_nil, V.ok, V.get, V.fget, V.fhas, Nat.reduceLeDiff, implies_true, Nat.reduceBEq, Int.cast_ofNat_Int]
    exact hpath
  have dd : decide (nought 13 = nought 13) = true := decide_eq_true rfl
  have d13 : decide ((13 : Int) = 13) = true := rfl
  simp only [tup2, eqP_in, eqP_mn, eqP_nn, eqP_pn, eqV_in, eqV_mn, eqV_nn, eqV_pn, LU, ↓step_conv, ex, Ro, RoD, OpD, epk, epochs, Mv.hx, idsOK, bs, wmask, LK.isW, LK.isA, LK.isP, step, num, X.ev, List.cons_append, List.nil_append, ne_eq, Nat.reduceLT, Int.reduceLE, Int.reduceLT, Int.cast_ofNat_Int, Nat.reducePow, Nat.reduceAnd, Nat.reduceOr, Nat.reduceShiftRight, BEq.rfl, Int.reduceToNat, vpick, vopt, optInt, isInt, vbuild, vbuildOK, vcaps, vcapsOK, elems, elemsOK, List.length_cons, List.length_nil, hget, hset, hdel, hhas, padd, V.ok, V.get, V.set, V.fget, V.fhas, V.fset, noR, Z.v, Z.sz, if_true, if_false, ite_true, ite_false, cond_true, cond_false, reduceCtorEq, forall_const, Nat.reduceAdd, Nat.reduceMul, Nat.reduceSub, Nat.reduceBEq, Nat.reduceEqDiff, dropTo, List.map_cons, List.map_nil, List.filter_cons, List.filter_nil]
  (refine ex_sound 8 _ _ _ _ ?_; simp (maxSteps := 2000000) only [dd, d13, memN_zero, LQ, ↓step_conv, OpD, epk, epochs, Mv.hx, idsOK, bs, wmask, LK.isW, LK.isA, LK.isP, step, num, X.ev, List.cons_append, List.nil_append, ne_eq, Nat.reduceLT, Int.reduceLE, Int.reduceLT, Int.cast_ofNat_Int, Nat.reducePow, Nat.reduceAnd, Nat.reduceOr, Nat.reduceShiftRight, BEq.rfl, Int.reduceToNat, vpick, vopt, optInt, isInt, vbuild, vbuildOK, vcaps, vcapsOK, elems, elemsOK, List.length_cons, List.length_nil, hget, hset, hdel, hhas, padd, V.ok, V.get, V.set, V.fget, V.fhas, V.fset, noR, Z.v, Z.sz, if_true, if_false, ite_true, ite_false, cond_true, cond_false, reduceCtorEq, forall_const, Nat.reduceAdd, Nat.reduceMul, Nat.reduceSub, Nat.reduceBEq, Nat.reduceEqDiff, dropTo, List.map_cons, List.map_nil, List.filter_cons, List.filter_nil, Nat.reduceLeDiff, Nat.testBit, Nat.reduceBneDiff, bne_self_eq_false, Nat.reduceBNe, ↓reduceIte, eqP_nn, eqV_nn, eqP_in, eqV_in, eqP_pn, eqV_pn, eqP_mn, eqV_mn])
  refine RetS.mk hx [] [] (.bool true) [] 0 (by decide) ?_ ?_ trivial ⟨rfl, rfl, rfl⟩
  · simp only [res, resPs, resP, tupP, resV, LU, ↓step_conv, ex, Ro, RoD, OpD, epk, epochs, Mv.hx, idsOK, bs, wmask, LK.isW, LK.isA, LK.isP, step, num, X.ev, List.cons_append, List.nil_append, ne_eq, Nat.reduceLT, Int.reduceLE, Int.reduceLT, Int.cast_ofNat_Int, Nat.reducePow, Nat.reduceAnd, Nat.reduceOr, Nat.reduceShiftRight, BEq.rfl, Int.reduceToNat, vpick, vopt, optInt, isInt, vbuild, vbuildOK, vcaps, vcapsOK, elems, elemsOK, List.length_cons, List.length_nil, hget, hset, hdel, hhas, padd, V.ok, V.get, V.set, V.fget, V.fhas, V.fset, noR, Z.v, Z.sz, if_true, if_false, ite_true, ite_false, cond_true, cond_false, reduceCtorEq, forall_const, Nat.reduceAdd, Nat.reduceMul, Nat.reduceSub, Nat.reduceBEq, Nat.reduceEqDiff, dropTo, List.map_cons, List.map_nil, List.filter_cons, List.filter_nil]
  · simp only [res, resV, tupV, tup2, tup3, LU, ↓step_conv, ex, Ro, RoD, OpD, epk, epochs, Mv.hx, idsOK, bs, wmask, LK.isW, LK.isA, LK.isP, step, num, X.ev, List.cons_append, List.nil_append, ne_eq, Nat.reduceLT, Int.reduceLE, Int.reduceLT, Int.cast_ofNat_Int, Nat.reducePow, Nat.reduceAnd, Nat.reduceOr, Nat.reduceShiftRight, BEq.rfl, Int.reduceToNat, vpick, vopt, optInt, isInt, vbuild, vbuildOK, vcaps, vcapsOK, elems, elemsOK, List.length_cons, List.length_nil, hget, hset, hdel, hhas, padd, V.ok, V.get, V.set, V.fget, V.fhas, V.fset, noR, Z.v, Z.sz, if_true, if_false, ite_true, ite_false, cond_true, cond_false, reduceCtorEq, forall_const, Nat.reduceAdd, Nat.reduceMul, Nat.reduceSub, Nat.reduceBEq, Nat.reduceEqDiff, dropTo, List.map_cons, List.map_nil, List.filter_cons, List.filter_nil, LT, SimL, ne_eq, Nat.reduceLT, SimA, Sim, SimH, frz, hget, hhas, List.getElem?_cons_zero, List.getElem?_cons_succ, List.getElem?_nil, BEq.rfl, if_true, reduceCtorEq, Option.some.injEq, Nat.reduceEqDiff, if_false, List.contains_cons, List.contains_nil, V.ok, V.get, V.fget, V.fhas, Nat.reduceLeDiff, implies_true, Nat.reduceBEq, Int.cast_ofNat_Int, dg]
end Mv
