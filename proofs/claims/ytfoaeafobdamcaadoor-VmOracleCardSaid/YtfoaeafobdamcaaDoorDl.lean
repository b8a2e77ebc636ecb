/- The closure of CommitOrder. -/
import Derived.Test.YtfoaeafobdamcaaDoorDk
set_option linter.unusedSimpArgs false
set_option linter.unusedVariables false
namespace Mv
open Go
set_option maxRecDepth 20000
set_option maxHeartbeats 4000000
set_option linter.unusedSimpArgs false

theorem NoIm_mach (f g : Nat → BitVec 64) (pc : BitVec 64) (hl : Bool) (xt : BitVec 64) : NoIm (mach f g pc hl xt) := by
  simp [mach, NoIm, W]
theorem ren_mach (m : List Nat) (f g : Nat → BitVec 64) (pc : BitVec 64) (hl : Bool) (xt : BitVec 64) : (mach f g pc hl xt).ren m = mach f g pc hl xt := rfl
theorem solid_mach (f g : Nat → BitVec 64) (pc : BitVec 64) (hl : Bool) (xt : BitVec 64) : (mach f g pc hl xt).solid = true := rfl
theorem Sim_mach (H : Hp) (m z : List Nat) (f g : Nat → BitVec 64) (pc : BitVec 64) (hl : Bool) (xt : BitVec 64) : Sim H m z (mach f g pc hl xt) (mach f g pc hl xt) := by
  simp only [mach, LT, SimL, ne_eq, Nat.reduceLT, SimA, Sim, SimH, frz, hget, hhas, List.getElem?_cons_zero, List.getElem?_cons_succ, List.getElem?_nil, BEq.rfl, if_true, reduceCtorEq, Option.some.injEq, Nat.reduceEqDiff, if_false, List.contains_cons, List.contains_nil, V.ok, V.get, V.fget, V.fhas, Nat.reduceLeDiff, implies_true, Nat.reduceBEq, Int.cast_ofNat_Int]

/-- The path of a word. -/
def pth (f : Nat → BitVec 64) (i : Nat) : List Dg := (List.range 13).map (fun h => memN f h ((i / 2 ^ h) ^^^ 1))
theorem pth_at (f : Nat → BitVec 64) (i j : Nat) (hj : j < 13) : (pth f i).getD j Dg.zero = memN f j ((i / 2 ^ j) ^^^ 1) := by
  simp [pth, List.getD, List.getElem?_map, List.getElem?_range hj]

theorem xor1_even {n : Nat} (h : n % 2 = 0) : n ^^^ 1 = n + 1 := by
  have h1 : (n ^^^ 1) / 2 = n / 2 := by rw [Nat.xor_div_two]; simp
  have h2 := @Nat.xor_mod_two_eq_one n 1
  omega
theorem xor1_odd {n : Nat} (h : n % 2 ≠ 0) : n ^^^ 1 = n - 1 := by
  have h1 : (n ^^^ 1) / 2 = n / 2 := by rw [Nat.xor_div_two]; simp
  have h2 := @Nat.xor_mod_two_eq_one n 1
  omega

/-- A memory with another word. -/
def upd (f : Nat → BitVec 64) (i : Nat) (v : BitVec 64) (j : Nat) : BitVec 64 := if j = i then v else f j
theorem memN_off (f : Nat → BitVec 64) (i : Nat) (v : BitVec 64) : ∀ q s, s ≠ i / 2 ^ q → memN (upd f i v) q s = memN f q s
  | 0, s, h => by
    have h : s ≠ i := by simpa using h
    simp only [memN, upd, if_neg h]
  | q + 1, s, h => by
    rw [div_pow] at h
    rw [memN, memN, memN_off f i v q _ (by omega), memN_off f i v q _ (by omega)]
theorem fold_mem (f : Nat → BitVec 64) (i : Nat) (hi : i < 8192) (v : BitVec 64) : ∀ q, q ≤ 13 → foldN i (leafD v) (pth f i) q = memN (upd f i v) q (i / 2 ^ q)
  | 0, _ => by simp [foldN, memN, upd, hi]
  | q + 1, h => by
    rw [foldN, fold_mem f i hi v q (by omega), pth_at _ _ _ (by omega), memN, div_pow]
    by_cases he : i / 2 ^ q % 2 = 0
    · rw [if_pos he, xor1_even he]
      have e1 : 2 * (i / 2 ^ q / 2) = i / 2 ^ q := by omega
      rw [e1, memN_off f i v q (i / 2 ^ q + 1) (by omega)]
    · rw [if_neg he, xor1_odd he]
      have e1 : 2 * (i / 2 ^ q / 2) + 1 = i / 2 ^ q := by omega
      have e2 : 2 * (i / 2 ^ q / 2) = i / 2 ^ q - 1 := by omega
      rw [e1, e2, memN_off f i v q (i / 2 ^ q - 1) (by omega)]
theorem upd_same (f : Nat → BitVec 64) (i : Nat) : upd f i (f i) = f := by
  funext j; unfold upd; split
  · rename_i h; rw [h]
  · rfl
theorem fold_self (f : Nat → BitVec 64) (i : Nat) (hi : i < 8192) : foldN i (leafD (f i)) (pth f i) 13 = memN f 13 0 := by
  rw [fold_mem f i hi (f i) 13 (by omega), upd_same, Nat.div_eq_of_lt (by omega)]
theorem fold_upd (f : Nat → BitVec 64) (i : Nat) (hi : i < 8192) (v : BitVec 64) : foldN i (leafD v) (pth f i) 13 = memN (upd f i v) 13 0 := by
  rw [fold_mem f i hi v 13 (by omega), Nat.div_eq_of_lt (by omega)]

/-- A call of what takes no blocks and leaves none; 'z': blocks that it may look at; they are the caller's again. -/
theorem call_pureL {M : Seat} {f : Nat} {us us0 : List V} {H : Hp} {n : Nat} {K : V → Hp → Prop} {v : V} (z : List Nat) (hr : Runs M f us0 [] 0 (fun r H' k' => r = v ∧ H' = [] ∧ k' = 0)) (hus : SimA H [] z us0 us) (hv : v.ren (nums [] n 0) = v) (hn : NoIm v) (hK : K v H) : CallK M f us H n K := by
  refine call_runs hr True [] z List.nodup_nil (by simp) rfl (by simp) hus trivial ?_
  rintro v' H' k' ⟨rfl, rfl, rfl⟩
  refine ⟨⟨by omega, fun _ => ⟨hn, fun id h => by simp [hhas] at h⟩⟩, ?_⟩
  rw [hv]
  simpa [renH, hrest] using hK

/-- So many of two writings. -/
def wrN (f : Nat → BitVec 64) (a b : BitVec 64 × BitVec 64) : Nat → Nat → BitVec 64
  | 0 => f
  | q + 1 => upd (wrN f a b q) ((if q = 0 then a else b).1.toNat % 8192) (if q = 0 then a else b).2

theorem runs_write {M : Seat} (ok : OkA M) (f g : Nat → BitVec 64) (pc : BitVec 64) (hl : Bool) (xt : BitVec 64) (a b : BitVec 64 × BitVec 64) (i : Nat) (hi : i < 8192) :
    Runs M 48 [.ar 2 2 (fun j => cellV (if j = 0 then a else b)), .imm (.imm (mach f g pc hl xt)), .imm (.int .u64 i)] [] 0
      (fun r H' k' => r = tup2 (W (wrN f a b 2 i)) (.bool true) ∧ H' = [] ∧ k' = 0) := by
  refine runs_fr ok.k48 rfl fun x hx => ?_
  refine ex_sound 30 _ _ _ _ ?_
  simp only [f48, c48, cellV, solid_mach, eqP_in, eqP_mn, eqP_nn, eqP_pn, eqV_in, eqV_mn, eqV_nn, eqV_pn, LU, ↓step_conv, ex, Ro, RoD, OpD, epk, epochs, Mv.hx, idsOK, bs, wmask, LK.isW, LK.isA, LK.isP, step, num, X.ev, List.cons_append, List.nil_append, ne_eq, Nat.reduceLT, Int.reduceLE, Int.reduceLT, Int.cast_ofNat_Int, Nat.reducePow, Nat.reduceAnd, Nat.reduceOr, Nat.reduceShiftRight, BEq.rfl, Int.reduceToNat, vpick, vopt, optInt, isInt, vbuild, vbuildOK, vcaps, vcapsOK, elems, elemsOK, List.length_cons, List.length_nil, hget, hset, hdel, hhas, padd, V.ok, V.get, V.set, V.fget, V.fhas, V.fset, noR, Z.v, Z.sz, if_true, if_false, ite_true, ite_false, cond_true, cond_false, reduceCtorEq, forall_const, Nat.reduceAdd, Nat.reduceMul, Nat.reduceSub, Nat.reduceBEq, Nat.reduceEqDiff, dropTo, List.map_cons, List.map_nil, List.filter_cons, List.filter_nil]
  refine call_runs (runs_Copy ok f g pc hl xt) False [] [] List.nodup_nil (by simp) rfl (by simp) ⟨Sim_mach _ _ _ _ _ _ _ _, trivial⟩ trivial ?_
  rintro r H' k' ⟨rfl, rfl, rfl⟩
  refine ⟨⟨by omega, fun h => h.elim⟩, ?_⟩
  have hnum : nums [] 64 1 = [64] := rfl
  simp only [hnum, ren_mach, LN, V.ren, renH, hrest, hdel, ren_lvV, List.getElem?_cons_zero, List.getElem?_cons_succ, List.append_nil, List.nil_append, List.cons_append, ne_eq, if_false, if_true, Nat.reduceEqDiff, reduceCtorEq]
  simp only [LU, ↓step_conv, ex, Ro, RoD, OpD, epk, epochs, Mv.hx, idsOK, bs, wmask, LK.isW, LK.isA, LK.isP, step, num, X.ev, List.cons_append, List.nil_append, ne_eq, Nat.reduceLT, Int.reduceLE, Int.reduceLT, Int.cast_ofNat_Int, Nat.reducePow, Nat.reduceAnd, Nat.reduceOr, Nat.reduceShiftRight, BEq.rfl, Int.reduceToNat, vpick, vopt, optInt, isInt, vbuild, vbuildOK, vcaps, vcapsOK, elems, elemsOK, List.length_cons, List.length_nil, hget, hset, hdel, hhas, padd, V.ok, V.get, V.set, V.fget, V.fhas, V.fset, noR, Z.v, Z.sz, if_true, if_false, ite_true, ite_false, cond_true, cond_false, reduceCtorEq, forall_const, Nat.reduceAdd, Nat.reduceMul, Nat.reduceSub, Nat.reduceBEq, Nat.reduceEqDiff, dropTo, List.map_cons, List.map_nil, List.filter_cons, List.filter_nil]
  refine loop_rule (σ := Nat) (fun q => q ≤ 2) (fun q => fr 87 [(2, .imm (.int .u64 i)), (4, .int .u64 0), (5, .bool false), (6, .ptr 0 []), (19, .ar 2 2 (fun j => cellV (if j = 0 then a else b))), (20, .int .i64 q)])
      (fun q => [(0, mach (wrN f a b q) g pc hl xt)]) (fun _ => 1) (fun q => 2 - q) 0 (by omega) ?_ ?_
  · refine Weak.fr [64] [] hx (by simp only [fr_length]) (by decide) ?_ ?_
    · simp only [cellV, LT, SimL, ne_eq, Nat.reduceLT, SimA, Sim, SimH, frz, hget, hhas, List.getElem?_cons_zero, List.getElem?_cons_succ, List.getElem?_nil, BEq.rfl, if_true, reduceCtorEq, Option.some.injEq, Nat.reduceEqDiff, if_false, List.contains_cons, List.contains_nil, V.ok, V.get, V.fget, V.fhas, Nat.reduceLeDiff, implies_true, Nat.reduceBEq, Int.cast_ofNat_Int]
    · simp only [mach, wrN, LT, SimL, ne_eq, Nat.reduceLT, SimA, Sim, SimH, frz, hget, hhas, List.getElem?_cons_zero, List.getElem?_cons_succ, List.getElem?_nil, BEq.rfl, if_true, reduceCtorEq, Option.some.injEq, Nat.reduceEqDiff, if_false, List.contains_cons, List.contains_nil, V.ok, V.get, V.fget, V.fhas, Nat.reduceLeDiff, implies_true, Nat.reduceBEq, Int.cast_ofNat_Int]
  · intro q hq
    refine ex_sound 16 _ _ _ _ ?_
    simp (maxSteps := 2000000) only [cellV, solid_mach, eqP_in, eqP_mn, eqP_nn, eqP_pn, eqV_in, eqV_mn, eqV_nn, eqV_pn, LU, ↓step_conv, ex, Ro, RoD, OpD, epk, epochs, Mv.hx, idsOK, bs, wmask, LK.isW, LK.isA, LK.isP, step, num, X.ev, List.cons_append, List.nil_append, ne_eq, Nat.reduceLT, Int.reduceLE, Int.reduceLT, Int.cast_ofNat_Int, Nat.reducePow, Nat.reduceAnd, Nat.reduceOr, Nat.reduceShiftRight, BEq.rfl, Int.reduceToNat, vpick, vopt, optInt, isInt, vbuild, vbuildOK, vcaps, vcapsOK, elems, elemsOK, List.length_cons, List.length_nil, hget, hset, hdel, hhas, padd, V.ok, V.get, V.set, V.fget, V.fhas, V.fset, noR, Z.v, Z.sz, if_true, if_false, ite_true, ite_false, cond_true, cond_false, reduceCtorEq, forall_const, Nat.reduceAdd, Nat.reduceMul, Nat.reduceSub, Nat.reduceBEq, Nat.reduceEqDiff, dropTo, List.map_cons, List.map_nil, List.filter_cons, List.filter_nil]
    refine ⟨fun hlt => ?_, fun hge => ?_⟩
    · have hlt := of_decide_eq_true hlt
      have e1 : ((if q = 0 then a else b).1.toNat : Int).tmod 8192 = (((if q = 0 then a else b).1.toNat % 8192 : Nat) : Int) := by rw [Int.tmod_eq_emod_of_nonneg (by omega)]; omega
      have w1 : IntKind.i64.wrap ((q : Int) + 1) = ((q + 1 : Nat) : Int) := by rw [wrap_i64 (by omega)]; omega
      have hstep : upd (wrN f a b q) ((if q = 0 then a else b).1.toNat % 8192) (if q = 0 then a else b).2 = wrN f a b (q + 1) := rfl
      simp only [e1]
      generalize wrN f a b q = F at hstep ⊢
      generalize (if q = 0 then a else b) = c at hstep e1 ⊢
      have had : c.1.toNat % 8192 < 8192 := Nat.mod_lt _ (by omega)
      generalize c.1.toNat % 8192 = ad at had hstep e1 ⊢
      refine ⟨by omega, by omega, ?_⟩
      refine call_runs (runs_Prove ok F g pc hl xt ad had) True [] [0] List.nodup_nil (by simp) rfl (by simp) (by simp only [SimA, SimV_imm, SimV_int, Sim_mach, solid_mach, LT, SimL, ne_eq, Nat.reduceLT, SimA, Sim, SimH, frz, hget, hhas, List.getElem?_cons_zero, List.getElem?_cons_succ, List.getElem?_nil, BEq.rfl, if_true, reduceCtorEq, Option.some.injEq, Nat.reduceEqDiff, if_false, List.contains_cons, List.contains_nil, V.ok, V.get, V.fget, V.fhas, Nat.reduceLeDiff, implies_true, Nat.reduceBEq, Int.cast_ofNat_Int]) trivial ?_
      rintro r H' k' ⟨rfl, rfl, rfl⟩
      refine ⟨⟨by omega, fun _ => ⟨?_, ?_⟩⟩, ?_⟩
      · simp only [tup2, NoIm, W, and_self]
      · intro id hid
        simp only [hhas, Bool.or_false, beq_iff_eq] at hid
        subst hid
        simp only [hget, if_true, NoIm, dg, B, implies_true]
      have hnum1 : nums [] 129 1 = [129] := rfl
      simp only [hnum1, tup2, LN, V.ren, renH, hrest, hdel, ren_lvV, List.getElem?_cons_zero, List.getElem?_cons_succ, List.append_nil, List.nil_append, List.cons_append, ne_eq, if_false, if_true, Nat.reduceEqDiff, reduceCtorEq]
      simp only [LU, ↓step_conv, ex, Ro, RoD, OpD, epk, epochs, Mv.hx, idsOK, bs, wmask, LK.isW, LK.isA, LK.isP, step, num, X.ev, List.cons_append, List.nil_append, ne_eq, Nat.reduceLT, Int.reduceLE, Int.reduceLT, Int.cast_ofNat_Int, Nat.reducePow, Nat.reduceAnd, Nat.reduceOr, Nat.reduceShiftRight, BEq.rfl, Int.reduceToNat, vpick, vopt, optInt, isInt, vbuild, vbuildOK, vcaps, vcapsOK, elems, elemsOK, List.length_cons, List.length_nil, hget, hset, hdel, hhas, padd, V.ok, V.get, V.set, V.fget, V.fhas, V.fset, noR, Z.v, Z.sz, if_true, if_false, ite_true, ite_false, cond_true, cond_false, reduceCtorEq, forall_const, Nat.reduceAdd, Nat.reduceMul, Nat.reduceSub, Nat.reduceBEq, Nat.reduceEqDiff, dropTo, List.map_cons, List.map_nil, List.filter_cons, List.filter_nil]
      refine call_pureL [0] (runs_cRoot ok F g pc hl xt) (by simp only [SimA, SimV_imm, Sim_mach, solid_mach, LT, SimL, ne_eq, Nat.reduceLT, SimA, Sim, SimH, frz, hget, hhas, List.getElem?_cons_zero, List.getElem?_cons_succ, List.getElem?_nil, BEq.rfl, if_true, reduceCtorEq, Option.some.injEq, Nat.reduceEqDiff, if_false, List.contains_cons, List.contains_nil, V.ok, V.get, V.fget, V.fhas, Nat.reduceLeDiff, implies_true, Nat.reduceBEq, Int.cast_ofNat_Int]) rfl (by simp only [tup2, NoIm, dg, B, implies_true, and_self]) ?_
      simp only [tup2, e1, LU, ↓step_conv, ex, Ro, RoD, OpD, epk, epochs, Mv.hx, idsOK, bs, wmask, LK.isW, LK.isA, LK.isP, step, num, X.ev, List.cons_append, List.nil_append, ne_eq, Nat.reduceLT, Int.reduceLE, Int.reduceLT, Int.cast_ofNat_Int, Nat.reducePow, Nat.reduceAnd, Nat.reduceOr, Nat.reduceShiftRight, BEq.rfl, Int.reduceToNat, vpick, vopt, optInt, isInt, vbuild, vbuildOK, vcaps, vcapsOK, elems, elemsOK, List.length_cons, List.length_nil, hget, hset, hdel, hhas, padd, V.ok, V.get, V.set, V.fget, V.fhas, V.fset, noR, Z.v, Z.sz, if_true, if_false, ite_true, ite_false, cond_true, cond_false, reduceCtorEq, forall_const, Nat.reduceAdd, Nat.reduceMul, Nat.reduceSub, Nat.reduceBEq, Nat.reduceEqDiff, dropTo, List.map_cons, List.map_nil, List.filter_cons, List.filter_nil]
      refine ⟨by omega, ?_⟩
      have hlen : (pth F ad).length = 13 := by simp [pth]
      refine call_pureL [129] (runs_Write ok (memN F 13 0) ad had (F ad) (pth F ad) hlen (fold_self F ad had) c.2) ?_ rfl (by simp only [tup2, NoIm, dg, B, implies_true, and_self]) ?_
      · simp only [SimA, LT, SimL, ne_eq, Nat.reduceLT, SimA, Sim, SimH, frz, hget, hhas, List.getElem?_cons_zero, List.getElem?_cons_succ, List.getElem?_nil, BEq.rfl, if_true, reduceCtorEq, Option.some.injEq, Nat.reduceEqDiff, if_false, List.contains_cons, List.contains_nil, V.ok, V.get, V.fget, V.fhas, Nat.reduceLeDiff, implies_true, Nat.reduceBEq, Int.cast_ofNat_Int]
        intro j hj
        rw [pth_at _ _ _ hj]
      rw [fold_upd _ _ had]
      simp (maxSteps := 2000000) only [tup2, e1, mach, LU, ↓step_conv, ex, Ro, RoD, OpD, epk, epochs, Mv.hx, idsOK, bs, wmask, LK.isW, LK.isA, LK.isP, step, num, X.ev, List.cons_append, List.nil_append, ne_eq, Nat.reduceLT, Int.reduceLE, Int.reduceLT, Int.cast_ofNat_Int, Nat.reducePow, Nat.reduceAnd, Nat.reduceOr, Nat.reduceShiftRight, BEq.rfl, Int.reduceToNat, vpick, vopt, optInt, isInt, vbuild, vbuildOK, vcaps, vcapsOK, elems, elemsOK, List.length_cons, List.length_nil, hget, hset, hdel, hhas, padd, V.ok, V.get, V.set, V.fget, V.fhas, V.fset, noR, Z.v, Z.sz, if_true, if_false, ite_true, ite_false, cond_true, cond_false, reduceCtorEq, forall_const, Nat.reduceAdd, Nat.reduceMul, Nat.reduceSub, Nat.reduceBEq, Nat.reduceEqDiff, dropTo, List.map_cons, List.map_nil, List.filter_cons, List.filter_nil]
      have hupd : ∀ j, (if j = ad then c.2 else F j) = upd F ad c.2 j := fun _ => rfl
      (refine ex_sound 40 _ _ _ _ ?_; simp (maxSteps := 2000000) only [tup2, e1, hupd, mach, eqP_in, eqP_mn, eqP_nn, eqP_pn, eqV_in, eqV_mn, eqV_nn, eqV_pn, LU, ↓step_conv, ex, Ro, RoD, OpD, epk, epochs, Mv.hx, idsOK, bs, wmask, LK.isW, LK.isA, LK.isP, step, num, X.ev, List.cons_append, List.nil_append, ne_eq, Nat.reduceLT, Int.reduceLE, Int.reduceLT, Int.cast_ofNat_Int, Nat.reducePow, Nat.reduceAnd, Nat.reduceOr, Nat.reduceShiftRight, BEq.rfl, Int.reduceToNat, vpick, vopt, optInt, isInt, vbuild, vbuildOK, vcaps, vcapsOK, elems, elemsOK, List.length_cons, List.length_nil, hget, hset, hdel, hhas, padd, V.ok, V.get, V.set, V.fget, V.fhas, V.fset, noR, Z.v, Z.sz, if_true, if_false, ite_true, ite_false, cond_true, cond_false, reduceCtorEq, forall_const, Nat.reduceAdd, Nat.reduceMul, Nat.reduceSub, Nat.reduceBEq, Nat.reduceEqDiff, dropTo, List.map_cons, List.map_nil, List.filter_cons, List.filter_nil])
      refine ⟨by omega, by omega, by omega, ?_⟩
      refine call_pureL [0] (runs_cRoot ok (upd F ad c.2) g pc hl xt) (by simp only [SimA, mach, LT, SimL, ne_eq, Nat.reduceLT, SimA, Sim, SimH, frz, hget, hhas, List.getElem?_cons_zero, List.getElem?_cons_succ, List.getElem?_nil, BEq.rfl, if_true, reduceCtorEq, Option.some.injEq, Nat.reduceEqDiff, if_false, List.contains_cons, List.contains_nil, V.ok, V.get, V.fget, V.fhas, Nat.reduceLeDiff, implies_true, Nat.reduceBEq, Int.cast_ofNat_Int]) rfl (by simp only [tup2, NoIm, dg, B, implies_true, and_self]) ?_
      have dd : decide (memN (upd F ad c.2) 13 0 = memN (upd F ad c.2) 13 0) = true := decide_eq_true rfl
      simp (maxSteps := 2000000) only [tup2, e1, dd, eqP_in, eqP_mn, eqP_nn, eqP_pn, eqV_in, eqV_mn, eqV_nn, eqV_pn, LU, ↓step_conv, ex, Ro, RoD, OpD, epk, epochs, Mv.hx, idsOK, bs, wmask, LK.isW, LK.isA, LK.isP, step, num, X.ev, List.cons_append, List.nil_append, ne_eq, Nat.reduceLT, Int.reduceLE, Int.reduceLT, Int.cast_ofNat_Int, Nat.reducePow, Nat.reduceAnd, Nat.reduceOr, Nat.reduceShiftRight, BEq.rfl, Int.reduceToNat, vpick, vopt, optInt, isInt, vbuild, vbuildOK, vcaps, vcapsOK, elems, elemsOK, List.length_cons, List.length_nil, hget, hset, hdel, hhas, padd, V.ok, V.get, V.set, V.fget, V.fhas, V.fset, noR, Z.v, Z.sz, if_true, if_false, ite_true, ite_false, cond_true, cond_false, reduceCtorEq, forall_const, Nat.reduceAdd, Nat.reduceMul, Nat.reduceSub, Nat.reduceBEq, Nat.reduceEqDiff, dropTo, List.map_cons, List.map_nil, List.filter_cons, List.filter_nil]
      refine ⟨q + 1, by omega, by omega, ?_⟩
      rw [hstep]
      refine Weak.fr [0] [] hx (by simp only [fr_length]) (by decide) ?_ ?_
      · simp only [w1, LT, SimL, ne_eq, Nat.reduceLT, SimA, Sim, SimH, frz, hget, hhas, List.getElem?_cons_zero, List.getElem?_cons_succ, List.getElem?_nil, BEq.rfl, if_true, reduceCtorEq, Option.some.injEq, Nat.reduceEqDiff, if_false, List.contains_cons, List.contains_nil, V.ok, V.get, V.fget, V.fhas, Nat.reduceLeDiff, implies_true, Nat.reduceBEq, Int.cast_ofNat_Int]
      · simp only [LT, SimL, ne_eq, Nat.reduceLT, SimA, Sim, SimH, frz, hget, hhas, List.getElem?_cons_zero, List.getElem?_cons_succ, List.getElem?_nil, BEq.rfl, if_true, reduceCtorEq, Option.some.injEq, Nat.reduceEqDiff, if_false, List.contains_cons, List.contains_nil, V.ok, V.get, V.fget, V.fhas, Nat.reduceLeDiff, implies_true, Nat.reduceBEq, Int.cast_ofNat_Int]
    · have hge := of_decide_eq_false hge
      have hq2 : q = 2 := by omega
      subst hq2
      simp only [mach, LU, ↓step_conv, ex, Ro, RoD, OpD, epk, epochs, Mv.hx, idsOK, bs, wmask, LK.isW, LK.isA, LK.isP, step, num, X.ev, List.cons_append, List.nil_append, ne_eq, Nat.reduceLT, Int.reduceLE, Int.reduceLT, Int.cast_ofNat_Int, Nat.reducePow, Nat.reduceAnd, Nat.reduceOr, Nat.reduceShiftRight, BEq.rfl, Int.reduceToNat, vpick, vopt, optInt, isInt, vbuild, vbuildOK, vcaps, vcapsOK, elems, elemsOK, List.length_cons, List.length_nil, hget, hset, hdel, hhas, padd, V.ok, V.get, V.set, V.fget, V.fhas, V.fset, noR, Z.v, Z.sz, if_true, if_false, ite_true, ite_false, cond_true, cond_false, reduceCtorEq, forall_const, Nat.reduceAdd, Nat.reduceMul, Nat.reduceSub, Nat.reduceBEq, Nat.reduceEqDiff, dropTo, List.map_cons, List.map_nil, List.filter_cons, List.filter_nil]
      refine ⟨by omega, by omega, by omega, ?_⟩
      refine RetS.mk hx [] [] (tup2 (W (wrN f a b 2 i)) (.bool true)) [] 0 (by decide) ?_ ?_ trivial ⟨rfl, rfl, rfl⟩
      · simp only [res, resPs, resP, tupP, resV, LU, ↓step_conv, ex, Ro, RoD, OpD, epk, epochs, Mv.hx, idsOK, bs, wmask, LK.isW, LK.isA, LK.isP, step, num, X.ev, List.cons_append, List.nil_append, ne_eq, Nat.reduceLT, Int.reduceLE, Int.reduceLT, Int.cast_ofNat_Int, Nat.reducePow, Nat.reduceAnd, Nat.reduceOr, Nat.reduceShiftRight, BEq.rfl, Int.reduceToNat, vpick, vopt, optInt, isInt, vbuild, vbuildOK, vcaps, vcapsOK, elems, elemsOK, List.length_cons, List.length_nil, hget, hset, hdel, hhas, padd, V.ok, V.get, V.set, V.fget, V.fhas, V.fset, noR, Z.v, Z.sz, if_true, if_false, ite_true, ite_false, cond_true, cond_false, reduceCtorEq, forall_const, Nat.reduceAdd, Nat.reduceMul, Nat.reduceSub, Nat.reduceBEq, Nat.reduceEqDiff, dropTo, List.map_cons, List.map_nil, List.filter_cons, List.filter_nil]
        rfl
      · simp only [res, resV, tupV, tup2, LU, ↓step_conv, ex, Ro, RoD, OpD, epk, epochs, Mv.hx, idsOK, bs, wmask, LK.isW, LK.isA, LK.isP, step, num, X.ev, List.cons_append, List.nil_append, ne_eq, Nat.reduceLT, Int.reduceLE, Int.reduceLT, Int.cast_ofNat_Int, Nat.reducePow, Nat.reduceAnd, Nat.reduceOr, Nat.reduceShiftRight, BEq.rfl, Int.reduceToNat, vpick, vopt, optInt, isInt, vbuild, vbuildOK, vcaps, vcapsOK, elems, elemsOK, List.length_cons, List.length_nil, hget, hset, hdel, hhas, padd, V.ok, V.get, V.set, V.fget, V.fhas, V.fset, noR, Z.v, Z.sz, if_true, if_false, ite_true, ite_false, cond_true, cond_false, reduceCtorEq, forall_const, Nat.reduceAdd, Nat.reduceMul, Nat.reduceSub, Nat.reduceBEq, Nat.reduceEqDiff, dropTo, List.map_cons, List.map_nil, List.filter_cons, List.filter_nil, LT, SimL, ne_eq, Nat.reduceLT, SimA, Sim, SimH, frz, hget, hhas, List.getElem?_cons_zero, List.getElem?_cons_succ, List.getElem?_nil, BEq.rfl, if_true, reduceCtorEq, Option.some.injEq, Nat.reduceEqDiff, if_false, List.contains_cons, List.contains_nil, V.ok, V.get, V.fget, V.fhas, Nat.reduceLeDiff, implies_true, Nat.reduceBEq, Int.cast_ofNat_Int, W]
end Mv
