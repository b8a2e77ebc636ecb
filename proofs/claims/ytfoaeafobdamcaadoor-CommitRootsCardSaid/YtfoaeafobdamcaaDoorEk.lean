/- CommitRoots. -/
import Derived.Test.YtfoaeafobdamcaaDoorEi
set_option linter.unusedSimpArgs false
set_option linter.unusedVariables false
namespace Mv
open Go
set_option maxRecDepth 20000
set_option maxHeartbeats 4000000
set_option linter.unusedSimpArgs false

theorem solid_hdV (g : Nat → BitVec 64) (pc : BitVec 64) (hl : Bool) (xt : BitVec 64) : (hdV g pc hl xt).solid = true := rfl
theorem size_hdV (g : Nat → BitVec 64) (pc : BitVec 64) (hl : Bool) (xt : BitVec 64) : (hdV g pc hl xt).size = 19 := rfl
theorem agg_hdV (g : Nat → BitVec 64) (pc : BitVec 64) (hl : Bool) (xt : BitVec 64) : (hdV g pc hl xt).isAgg = true := rfl

def crL5 : List DOp := [⟨33, 1073741823, ⟨(some 93), .lo (.load true 32 (.t 13)), (some (89, true))⟩⟩,
  ⟨34, 17179869183, ⟨(some 94), .lo (.eq false false (.ar 32 1 false .int) (.t 92) (.t 93)), (some (89, true))⟩⟩,
  ⟨35, 34359738367, ⟨(some 95), .lo (.pick (.t 89) (.t 94) (.c (.bool false))), none⟩⟩,
  ⟨36, 68719476735, ⟨(some 96), .lo (.mv (.t 95)), none⟩⟩,
  ⟨37, 137438953471, ⟨(some 97), .lo (.fadr 16 (.t 17)), (some (96, true))⟩⟩,
  ⟨38, 274877906943, ⟨(some 98), .lo (.load false 1 (.t 97)), (some (96, true))⟩⟩,
  ⟨39, 137438953471, ⟨(some 99), .lo (.mv (.t 2)), (some (96, true))⟩⟩,
  ⟨40, 1099511627775, ⟨(some 100), .lo (.ari .eql (.t 98) (.t 99)), (some (96, true))⟩⟩,
  ⟨41, 2199023255551, ⟨(some 101), .lo (.pick (.t 96) (.t 100) (.c (.bool false))), none⟩⟩,
  ⟨42, 4398046511103, ⟨(some 102), .lo (.mv (.t 101)), none⟩⟩,
  ⟨43, 8796093022207, ⟨(some 103), .lo (.fadr 18 (.t 17)), (some (102, true))⟩⟩,
  ⟨44, 17592186044415, ⟨(some 104), .lo (.load false 1 (.t 103)), (some (102, true))⟩⟩,
  ⟨45, 8796093022207, ⟨(some 105), .lo (.mv (.t 3)), (some (102, true))⟩⟩,
  ⟨46, 70368744177663, ⟨(some 106), .lo (.ari .eql (.t 104) (.t 105)), (some (102, true))⟩⟩,
  ⟨47, 140737488355327, ⟨(some 107), .lo (.pick (.t 102) (.t 106) (.c (.bool false))), none⟩⟩,
  ⟨48, 281474976710655, ⟨(some 108), .lo (.mv (.t 107)), none⟩⟩,
  ⟨49, 562949953421311, ⟨(some 109), .lo (.fadr 17 (.t 17)), (some (108, true))⟩⟩,
  ⟨50, 1125899906842623, ⟨(some 110), .lo (.load false 1 (.t 109)), (some (108, true))⟩⟩,
  ⟨51, 562949953421311, ⟨(some 111), .lo (.mv (.t 4)), (some (108, true))⟩⟩,
  ⟨52, 4503599627370495, ⟨(some 112), .lo (.eq false false .bool (.t 110) (.t 111)), (some (108, true))⟩⟩,
  ⟨53, 9007199254740991, ⟨(some 113), .lo (.pick (.t 108) (.t 112) (.c (.bool false))), none⟩⟩,
  ⟨54, 18014398509481983, ⟨(some 114), .lo (.mv (.t 113)), none⟩⟩,
  ⟨55, 36028797018963967, ⟨(some 115), .lo (.fadr 0 (.t 17)), (some (114, true))⟩⟩,
  ⟨56, 72057594037927935, ⟨(some 116), .lo (.load true 16 (.t 115)), (some (114, true))⟩⟩,
  ⟨57, 36028797018963967, ⟨(some 117), .lo (.mv (.t 11)), (some (114, true))⟩⟩,
  ⟨58, 180143985094819839, ⟨(some 118), .lo (.nilc (.t 117)), (some (114, true))⟩⟩,
  ⟨59, 468374361246531583, ⟨(some 119), .lo (.fadr 8192 (.t 118)), (some (114, true))⟩⟩,
  ⟨60, 1044835113549955071, ⟨(some 120), .lo (.load true 16 (.t 119)), (some (114, true))⟩⟩,
  ⟨61, 2305843009213693951, ⟨(some 121), .lo (.eq false false (.ar 16 1 false .int) (.t 116) (.t 120)), (some (114, true))⟩⟩,
  ⟨62, 4611686018427387903, ⟨(some 122), .lo (.pick (.t 114) (.t 121) (.c (.bool false))), none⟩⟩,
  ⟨63, 9223372036854775807, ⟨(some 10), .lo (.mv (.t 122)), none⟩⟩]
theorem crL5_len : crL5.length = 31 := rfl
theorem crL5_w : wmask crL5 33 = 0 := by decide +kernel
def crL4 : List DOp := ⟨27, 134217727, ⟨(some 87), .lo (.eq false false (.ar 32 1 false .int) (.t 83) (.t 86)), (some (81, true))⟩⟩ ::
  ⟨28, 268435455, ⟨(some 88), .lo (.pick (.t 81) (.t 87) (.c (.bool false))), none⟩⟩ ::
  ⟨29, 536870911, ⟨(some 89), .lo (.mv (.t 88)), none⟩⟩ ::
  ⟨30, 1073741823, ⟨(some 90), .lo (.load true 32 (.t 15)), (some (89, true))⟩⟩ ::
  ⟨31, 1073741823, ⟨(some 91), .lo (.load true 19 (.t 17)), (some (89, true))⟩⟩ ::
  ⟨32, 4294967295, ⟨(some 92), .call 62 [(.t 90), (.t 91)], (some (89, true))⟩⟩ ::
  crL5
theorem crL4_len : crL4.length = 37 := rfl
theorem crL4_w : wmask crL4 27 = 4294967296 := by decide +kernel
def crL3 : List DOp := ⟨26, 67108863, ⟨(some 86), .call 60 [(.t 85)], (some (81, true))⟩⟩ ::
  crL4
theorem crL3_len : crL3.length = 38 := rfl
theorem crL3_w : wmask crL3 26 = 4362076160 := by decide +kernel
def crL2 : List DOp := ⟨24, 4194303, ⟨(some 84), .lo (.mv (.t 12)), (some (81, true))⟩⟩ ::
  ⟨25, 33554431, ⟨(some 85), .call 61 [(.t 84)], (some (81, true))⟩⟩ ::
  crL3
theorem crL2_len : crL2.length = 40 := rfl
theorem crL2_w : wmask crL2 24 = 4395630592 := by decide +kernel
def crL1 : List DOp := ⟨11, 2047, ⟨(some 71), .lo (.load true 32 (.t 13)), (some (70, true))⟩⟩ ::
  ⟨14, 16383, ⟨(some 74), .lo (.eq false false (.ar 32 1 false .int) (.t 71) (.t 73)), (some (70, true))⟩⟩ ::
  ⟨15, 32767, ⟨(some 75), .lo (.pick (.t 70) (.t 74) (.c (.bool false))), none⟩⟩ ::
  ⟨16, 65535, ⟨(some 76), .lo (.mv (.t 75)), none⟩⟩ ::
  ⟨17, 131071, ⟨(some 77), .lo (.load true 32 (.t 15)), (some (76, true))⟩⟩ ::
  ⟨18, 131071, ⟨(some 78), .lo (.load true 32 (.t 19)), (some (76, true))⟩⟩ ::
  ⟨19, 524287, ⟨(some 79), .lo (.eq false false (.ar 32 1 false .int) (.t 77) (.t 78)), (some (76, true))⟩⟩ ::
  ⟨20, 1048575, ⟨(some 80), .lo (.pick (.t 76) (.t 79) (.c (.bool false))), none⟩⟩ ::
  ⟨21, 2097151, ⟨(some 81), .lo (.mv (.t 80)), none⟩⟩ ::
  ⟨22, 4194303, ⟨(some 82), .lo (.load true 19 (.t 17)), (some (81, true))⟩⟩ ::
  ⟨23, 8388607, ⟨(some 83), .call 59 [(.t 82)], (some (81, true))⟩⟩ ::
  crL2
theorem crL1_len : crL1.length = 51 := rfl
theorem crL1_w : wmask crL1 13 = 4404019200 := by decide +kernel
def crLR : LC := .regd (⟨0, 0, ⟨(some 60), .lo (.mv (.t 14)), none⟩⟩ ::
  ⟨1, 1, ⟨(some 61), .lo (.eq false true (.iface [74]) (.t 60) (.c .nili)), none⟩⟩ ::
  ⟨2, 3, ⟨(some 62), .lo (.mv (.t 61)), none⟩⟩ ::
  ⟨3, 7, ⟨(some 63), .lo (.mv (.t 16)), (some (62, true))⟩⟩ ::
  ⟨4, 15, ⟨(some 64), .lo (.eq false true (.iface [74]) (.t 63) (.c .nili)), (some (62, true))⟩⟩ ::
  ⟨5, 31, ⟨(some 65), .lo (.pick (.t 62) (.t 64) (.c (.bool false))), none⟩⟩ ::
  ⟨6, 63, ⟨(some 66), .lo (.mv (.t 65)), none⟩⟩ ::
  ⟨7, 127, ⟨(some 67), .lo (.mv (.t 18)), (some (66, true))⟩⟩ ::
  ⟨8, 255, ⟨(some 68), .lo (.eq false true (.iface [74]) (.t 67) (.c .nili)), (some (66, true))⟩⟩ ::
  ⟨9, 511, ⟨(some 69), .lo (.pick (.t 66) (.t 68) (.c (.bool false))), none⟩⟩ ::
  ⟨10, 1023, ⟨(some 70), .lo (.mv (.t 69)), none⟩⟩ ::
  ⟨12, 2047, ⟨(some 72), .lo (.mv (.t 12)), (some (70, true))⟩⟩ ::
  ⟨13, 4095, ⟨(some 73), .call 58 [(.t 72)], (some (70, true))⟩⟩ ::
  crL1)
def crT : LC := .seq crLR .ret

theorem cr_end {M : Seat} {x : Ctx} (ok : OkA M) (okB : OkB M) (hx : x.k = 0) (f g : Nat → BitVec 64) (pc : BitVec 64) (hl : Bool) (xt : BitVec 64) :
    SemK M x (RetS M x [.tmp 10] (fun r H' k' => r = .bool true ∧ H' = [] ∧ k' = 0)) [.code crT] 8
      (fr 123 [(2, W pc), (3, W xt), (4, .bool hl), (11, .ptr 0 []), (12, .ptr 1 []), (13, .ptr 4 []), (14, .nili), (15, .ptr 5 []), (16, .nili), (17, .ptr 6 []), (18, .nili), (19, .ptr 7 [])])
      [(0, mach f g pc hl xt), (1, refm 2 3 pc hl xt), (2, .ar 1 8192 (fun j => W (f j))), (3, .ar 1 16 (fun j => W (g j))), (4, dg (comD f g pc hl xt)), (5, dg (memN f 13 0)), (6, hdV g pc hl xt), (7, dg (memN f 13 0))] := by
  have dpc : decide (pc = pc) = true := decide_eq_true rfl
  have dxt : decide (xt = xt) = true := decide_eq_true rfl
  have dhl : decide (hl = hl) = true := decide_eq_true rfl
  have dd : ∀ d : Dg, decide (d = d) = true := fun d => decide_eq_true rfl
  have hc : comD f g pc hl xt = pair (memN f 13 0) (headD g pc hl xt) := rfl
  (refine ex_sound 3 _ _ _ _ ?_; simp (maxSteps := 2000000) only [crT, crLR, crL1_len, crL1_w, dd, eqP_in, eqP_mn, eqP_nn, eqP_pn, eqV_in, eqV_mn, eqV_nn, eqV_pn, LQ, ↓step_conv, OpD, epk, epochs, Mv.hx, idsOK, bs, wmask, LK.isW, LK.isA, LK.isP, step, num, X.ev, List.cons_append, List.nil_append, ne_eq, Nat.reduceLT, Int.reduceLE, Int.reduceLT, Int.cast_ofNat_Int, Nat.reducePow, Nat.reduceAnd, Nat.reduceOr, Nat.reduceShiftRight, BEq.rfl, Int.reduceToNat, vpick, vopt, optInt, isInt, vbuild, vbuildOK, vcaps, vcapsOK, elems, elemsOK, List.length_cons, List.length_nil, hget, hset, hdel, hhas, padd, V.ok, V.get, V.set, V.fget, V.fhas, V.fset, noR, Z.v, Z.sz, if_true, if_false, ite_true, ite_false, cond_true, cond_false, reduceCtorEq, forall_const, Nat.reduceAdd, Nat.reduceMul, Nat.reduceSub, Nat.reduceBEq, Nat.reduceEqDiff, dropTo, List.map_cons, List.map_nil, List.filter_cons, List.filter_nil, Nat.reduceLeDiff, Nat.testBit, Nat.reduceBneDiff, bne_self_eq_false, Nat.reduceBNe, ↓reduceIte, eqP_nn, eqV_nn, eqP_in, eqV_in, eqP_pn, eqV_pn, eqP_mn, eqV_mn])
  refine ⟨_, _, call_pureL [1, 2, 3] (runs_refOf okB f g pc hl xt) ?_ rfl (NoIm_dg _) ⟨rfl, rfl⟩, ?_⟩
  · simp only [refI, refm, LT, SimL, ne_eq, Nat.reduceLT, SimA, Sim, SimH, frz, hget, hhas, List.getElem?_cons_zero, List.getElem?_cons_succ, List.getElem?_nil, BEq.rfl, if_true, reduceCtorEq, Option.some.injEq, Nat.reduceEqDiff, if_false, List.contains_cons, List.contains_nil, V.ok, V.get, V.fget, V.fhas, Nat.reduceLeDiff, implies_true, Nat.reduceBEq, Int.cast_ofNat_Int]
  simp (maxSteps := 2000000) only [crL1, dd, solid_hdV, size_hdV, agg_hdV, eqP_in, eqP_mn, eqP_nn, eqP_pn, eqV_in, eqV_mn, eqV_nn, eqV_pn, LQ, ↓step_conv, OpD, epk, epochs, Mv.hx, idsOK, bs, wmask, LK.isW, LK.isA, LK.isP, step, num, X.ev, List.cons_append, List.nil_append, ne_eq, Nat.reduceLT, Int.reduceLE, Int.reduceLT, Int.cast_ofNat_Int, Nat.reducePow, Nat.reduceAnd, Nat.reduceOr, Nat.reduceShiftRight, BEq.rfl, Int.reduceToNat, vpick, vopt, optInt, isInt, vbuild, vbuildOK, vcaps, vcapsOK, elems, elemsOK, List.length_cons, List.length_nil, hget, hset, hdel, hhas, padd, V.ok, V.get, V.set, V.fget, V.fhas, V.fset, noR, Z.v, Z.sz, if_true, if_false, ite_true, ite_false, cond_true, cond_false, reduceCtorEq, forall_const, Nat.reduceAdd, Nat.reduceMul, Nat.reduceSub, Nat.reduceBEq, Nat.reduceEqDiff, dropTo, List.map_cons, List.map_nil, List.filter_cons, List.filter_nil, Nat.reduceLeDiff, Nat.testBit, Nat.reduceBneDiff, bne_self_eq_false, Nat.reduceBNe, ↓reduceIte, eqP_nn, eqV_nn, eqP_in, eqV_in, eqP_pn, eqV_pn, eqP_mn, eqV_mn]
  refine ⟨_, _, call_pure (runs_Digest ok okB g pc hl xt) ⟨SimV_hdV _ _ _ _ _ _ _, trivial⟩ rfl ⟨rfl, rfl⟩, ?_⟩
  simp (maxSteps := 2000000) only [crL2, dd, eqP_in, eqP_mn, eqP_nn, eqP_pn, eqV_in, eqV_mn, eqV_nn, eqV_pn, LQ, ↓step_conv, OpD, epk, epochs, Mv.hx, idsOK, bs, wmask, LK.isW, LK.isA, LK.isP, step, num, X.ev, List.cons_append, List.nil_append, ne_eq, Nat.reduceLT, Int.reduceLE, Int.reduceLT, Int.cast_ofNat_Int, Nat.reducePow, Nat.reduceAnd, Nat.reduceOr, Nat.reduceShiftRight, BEq.rfl, Int.reduceToNat, vpick, vopt, optInt, isInt, vbuild, vbuildOK, vcaps, vcapsOK, elems, elemsOK, List.length_cons, List.length_nil, hget, hset, hdel, hhas, padd, V.ok, V.get, V.set, V.fget, V.fhas, V.fset, noR, Z.v, Z.sz, if_true, if_false, ite_true, ite_false, cond_true, cond_false, reduceCtorEq, forall_const, Nat.reduceAdd, Nat.reduceMul, Nat.reduceSub, Nat.reduceBEq, Nat.reduceEqDiff, dropTo, List.map_cons, List.map_nil, List.filter_cons, List.filter_nil, Nat.reduceLeDiff, Nat.testBit, Nat.reduceBneDiff, bne_self_eq_false, Nat.reduceBNe, ↓reduceIte, eqP_nn, eqV_nn, eqP_in, eqV_in, eqP_pn, eqV_pn, eqP_mn, eqV_mn]
  refine ⟨_, _, call_freshL [1, 2, 3] (runs_refHead okB f g pc hl xt) ?_ ?_ ?_ ⟨rfl, rfl⟩, ?_⟩
  · simp only [refI, refm, LT, SimL, ne_eq, Nat.reduceLT, SimA, Sim, SimH, frz, hget, hhas, List.getElem?_cons_zero, List.getElem?_cons_succ, List.getElem?_nil, BEq.rfl, if_true, reduceCtorEq, Option.some.injEq, Nat.reduceEqDiff, if_false, List.contains_cons, List.contains_nil, V.ok, V.get, V.fget, V.fhas, Nat.reduceLeDiff, implies_true, Nat.reduceBEq, Int.cast_ofNat_Int]
  · simp only [hdR, NoIm, W, and_self]
  · simp only [NoIm, W, implies_true]
  simp only [hdR, LN, V.ren, renH, hrest, hdel, ren_lvV, List.getElem?_cons_zero, List.getElem?_cons_succ, List.append_nil, List.nil_append, List.cons_append, ne_eq, if_false, if_true, Nat.reduceEqDiff, reduceCtorEq]
  simp (maxSteps := 2000000) only [crL3, dd, eqP_in, eqP_mn, eqP_nn, eqP_pn, eqV_in, eqV_mn, eqV_nn, eqV_pn, LQ, ↓step_conv, OpD, epk, epochs, Mv.hx, idsOK, bs, wmask, LK.isW, LK.isA, LK.isP, step, num, X.ev, List.cons_append, List.nil_append, ne_eq, Nat.reduceLT, Int.reduceLE, Int.reduceLT, Int.cast_ofNat_Int, Nat.reducePow, Nat.reduceAnd, Nat.reduceOr, Nat.reduceShiftRight, BEq.rfl, Int.reduceToNat, vpick, vopt, optInt, isInt, vbuild, vbuildOK, vcaps, vcapsOK, elems, elemsOK, List.length_cons, List.length_nil, hget, hset, hdel, hhas, padd, V.ok, V.get, V.set, V.fget, V.fhas, V.fset, noR, Z.v, Z.sz, if_true, if_false, ite_true, ite_false, cond_true, cond_false, reduceCtorEq, forall_const, Nat.reduceAdd, Nat.reduceMul, Nat.reduceSub, Nat.reduceBEq, Nat.reduceEqDiff, dropTo, List.map_cons, List.map_nil, List.filter_cons, List.filter_nil, Nat.reduceLeDiff, Nat.testBit, Nat.reduceBneDiff, bne_self_eq_false, Nat.reduceBNe, ↓reduceIte, eqP_nn, eqV_nn, eqP_in, eqV_in, eqP_pn, eqV_pn, eqP_mn, eqV_mn]
  refine ⟨_, _, call_pureL [1432] (runs_refDigest okB g pc hl xt) ?_ rfl (NoIm_dg _) ⟨rfl, rfl⟩, ?_⟩
  · simp only [hdR, LT, SimL, ne_eq, Nat.reduceLT, SimA, Sim, SimH, frz, hget, hhas, List.getElem?_cons_zero, List.getElem?_cons_succ, List.getElem?_nil, BEq.rfl, if_true, reduceCtorEq, Option.some.injEq, Nat.reduceEqDiff, if_false, List.contains_cons, List.contains_nil, V.ok, V.get, V.fget, V.fhas, Nat.reduceLeDiff, implies_true, Nat.reduceBEq, Int.cast_ofNat_Int]
  simp (maxSteps := 2000000) only [crL4, dd, solid_hdV, size_hdV, agg_hdV, eqP_in, eqP_mn, eqP_nn, eqP_pn, eqV_in, eqV_mn, eqV_nn, eqV_pn, LQ, ↓step_conv, OpD, epk, epochs, Mv.hx, idsOK, bs, wmask, LK.isW, LK.isA, LK.isP, step, num, X.ev, List.cons_append, List.nil_append, ne_eq, Nat.reduceLT, Int.reduceLE, Int.reduceLT, Int.cast_ofNat_Int, Nat.reducePow, Nat.reduceAnd, Nat.reduceOr, Nat.reduceShiftRight, BEq.rfl, Int.reduceToNat, vpick, vopt, optInt, isInt, vbuild, vbuildOK, vcaps, vcapsOK, elems, elemsOK, List.length_cons, List.length_nil, hget, hset, hdel, hhas, padd, V.ok, V.get, V.set, V.fget, V.fhas, V.fset, noR, Z.v, Z.sz, if_true, if_false, ite_true, ite_false, cond_true, cond_false, reduceCtorEq, forall_const, Nat.reduceAdd, Nat.reduceMul, Nat.reduceSub, Nat.reduceBEq, Nat.reduceEqDiff, dropTo, List.map_cons, List.map_nil, List.filter_cons, List.filter_nil, Nat.reduceLeDiff, Nat.testBit, Nat.reduceBneDiff, bne_self_eq_false, Nat.reduceBNe, ↓reduceIte, eqP_nn, eqV_nn, eqP_in, eqV_in, eqP_pn, eqV_pn, eqP_mn, eqV_mn]
  refine ⟨_, _, call_pure (runs_Join ok okB (memN f 13 0) g pc hl xt) ⟨(Sim_dg _ _ _ _ _).mpr rfl, SimV_hdV _ _ _ _ _ _ _, trivial⟩ rfl ⟨rfl, rfl⟩, ?_⟩
  rw [← hc]
  simp (maxSteps := 2000000) only [crL5, hdV, mach, dd, dpc, dxt, dhl, boolP, boolV, veqP_regs, veqV_regs, eqP_in, eqP_mn, eqP_nn, eqP_pn, eqV_in, eqV_mn, eqV_nn, eqV_pn, LQ, ↓step_conv, OpD, epk, epochs, Mv.hx, idsOK, bs, wmask, LK.isW, LK.isA, LK.isP, step, num, X.ev, List.cons_append, List.nil_append, ne_eq, Nat.reduceLT, Int.reduceLE, Int.reduceLT, Int.cast_ofNat_Int, Nat.reducePow, Nat.reduceAnd, Nat.reduceOr, Nat.reduceShiftRight, BEq.rfl, Int.reduceToNat, vpick, vopt, optInt, isInt, vbuild, vbuildOK, vcaps, vcapsOK, elems, elemsOK, List.length_cons, List.length_nil, hget, hset, hdel, hhas, padd, V.ok, V.get, V.set, V.fget, V.fhas, V.fset, noR, Z.v, Z.sz, if_true, if_false, ite_true, ite_false, cond_true, cond_false, reduceCtorEq, forall_const, Nat.reduceAdd, Nat.reduceMul, Nat.reduceSub, Nat.reduceBEq, Nat.reduceEqDiff, dropTo, List.map_cons, List.map_nil, List.filter_cons, List.filter_nil, Nat.reduceLeDiff, Nat.testBit, Nat.reduceBneDiff, bne_self_eq_false, Nat.reduceBNe, ↓reduceIte, eqP_nn, eqV_nn, eqP_in, eqV_in, eqP_pn, eqV_pn, eqP_mn, eqV_mn]
  refine RetS.mk hx [] [] (.bool true) [] 0 (by decide) ?_ ?_ trivial ⟨rfl, rfl, rfl⟩
  · simp only [res, resPs, resP, tupP, resV, LU, ↓step_conv, ex, Ro, RoD, OpD, epk, epochs, Mv.hx, idsOK, bs, wmask, LK.isW, LK.isA, LK.isP, step, num, X.ev, List.cons_append, List.nil_append, ne_eq, Nat.reduceLT, Int.reduceLE, Int.reduceLT, Int.cast_ofNat_Int, Nat.reducePow, Nat.reduceAnd, Nat.reduceOr, Nat.reduceShiftRight, BEq.rfl, Int.reduceToNat, vpick, vopt, optInt, isInt, vbuild, vbuildOK, vcaps, vcapsOK, elems, elemsOK, List.length_cons, List.length_nil, hget, hset, hdel, hhas, padd, V.ok, V.get, V.set, V.fget, V.fhas, V.fset, noR, Z.v, Z.sz, if_true, if_false, ite_true, ite_false, cond_true, cond_false, reduceCtorEq, forall_const, Nat.reduceAdd, Nat.reduceMul, Nat.reduceSub, Nat.reduceBEq, Nat.reduceEqDiff, dropTo, List.map_cons, List.map_nil, List.filter_cons, List.filter_nil]
  · simp only [res, resV, tupV, tup2, tup3, LU, ↓step_conv, ex, Ro, RoD, OpD, epk, epochs, Mv.hx, idsOK, bs, wmask, LK.isW, LK.isA, LK.isP, step, num, X.ev, List.cons_append, List.nil_append, ne_eq, Nat.reduceLT, Int.reduceLE, Int.reduceLT, Int.cast_ofNat_Int, Nat.reducePow, Nat.reduceAnd, Nat.reduceOr, Nat.reduceShiftRight, BEq.rfl, Int.reduceToNat, vpick, vopt, optInt, isInt, vbuild, vbuildOK, vcaps, vcapsOK, elems, elemsOK, List.length_cons, List.length_nil, hget, hset, hdel, hhas, padd, V.ok, V.get, V.set, V.fget, V.fhas, V.fset, noR, Z.v, Z.sz, if_true, if_false, ite_true, ite_false, cond_true, cond_false, reduceCtorEq, forall_const, Nat.reduceAdd, Nat.reduceMul, Nat.reduceSub, Nat.reduceBEq, Nat.reduceEqDiff, dropTo, List.map_cons, List.map_nil, List.filter_cons, List.filter_nil, LT, SimL, ne_eq, Nat.reduceLT, SimA, Sim, SimH, frz, hget, hhas, List.getElem?_cons_zero, List.getElem?_cons_succ, List.getElem?_nil, BEq.rfl, if_true, reduceCtorEq, Option.some.injEq, Nat.reduceEqDiff, if_false, List.contains_cons, List.contains_nil, V.ok, V.get, V.fget, V.fhas, Nat.reduceLeDiff, implies_true, Nat.reduceBEq, Int.cast_ofNat_Int, dg]
end Mv
namespace Mv
open Go
set_option maxRecDepth 20000
set_option maxHeartbeats 4000000
set_option linter.unusedSimpArgs false

def crM : LC := (.seq (.reg [⟨(some 37), .lo (.mv (.t 11)), none⟩,
  ⟨(some 38), .call 54 [(.t 37)], none⟩,
  ⟨(some 36), .lo (.mv (.t 38)), none⟩,
  ⟨(some 39), .lo (.ext (.t 36) 0), none⟩,
  ⟨(some 40), .lo (.ext (.t 36) 1), none⟩,
  ⟨(some 13), .lo (.alloc (.ar 32 (.int .u8))), none⟩,
  ⟨none, .lo (.store 32 (.t 13) (.t 39)), none⟩,
  ⟨(some 14), .lo (.mv (.t 40)), none⟩])
 ((.seq (.reg [⟨(some 42), .lo (.mv (.t 11)), none⟩,
  ⟨(some 43), .call 51 [(.t 42)], none⟩,
  ⟨(some 41), .lo (.mv (.t 43)), none⟩,
  ⟨(some 44), .lo (.ext (.t 41) 0), none⟩,
  ⟨(some 45), .lo (.ext (.t 41) 1), none⟩,
  ⟨(some 15), .lo (.alloc (.ar 32 (.int .u8))), none⟩,
  ⟨none, .lo (.store 32 (.t 15) (.t 44)), none⟩,
  ⟨(some 16), .lo (.mv (.t 45)), none⟩])
 ((.seq (.reg [⟨(some 47), .lo (.mv (.t 11)), none⟩,
  ⟨(some 48), .call 55 [(.t 47)], none⟩,
  ⟨(some 46), .lo (.mv (.t 48)), none⟩,
  ⟨(some 49), .lo (.ext (.t 46) 0), none⟩,
  ⟨(some 50), .lo (.ext (.t 46) 1), none⟩,
  ⟨(some 17), .lo (.alloc (.st (.cons (.ar 16 (.int .u64)) (.cons (.int .u64) (.cons .bool (.cons (.int .u64) .nil)))))), none⟩,
  ⟨none, .lo (.store 19 (.t 17) (.t 49)), none⟩,
  ⟨(some 18), .lo (.mv (.t 50)), none⟩])
 ((.seq (.reg [⟨(some 52), .lo (.mv (.t 12)), none⟩,
  ⟨(some 53), .lo (.nilc (.t 52)), none⟩,
  ⟨(some 54), .lo (.fadr 0 (.t 53)), none⟩,
  ⟨(some 55), .lo (.load false 1 (.t 54)), none⟩,
  ⟨(some 56), .call 57 [(.t 55)], none⟩,
  ⟨(some 57), .call 56 [(.c (.int .i64 13)), (.t 56)], none⟩,
  ⟨(some 51), .lo (.mv (.t 57)), none⟩,
  ⟨(some 58), .lo (.ext (.t 51) 0), none⟩,
  ⟨(some 59), .lo (.ext (.t 51) 1), none⟩,
  ⟨(some 19), .lo (.alloc (.ar 32 (.int .u8))), none⟩,
  ⟨none, .lo (.store 32 (.t 19) (.t 58)), none⟩,
  ⟨(some 20), .lo (.mv (.t 59)), none⟩])
 ((.seq (.regd [⟨0, 0, ⟨(some 60), .lo (.mv (.t 14)), none⟩⟩,
  ⟨1, 1, ⟨(some 61), .lo (.eq false true (.iface [74]) (.t 60) (.c .nili)), none⟩⟩,
  ⟨2, 3, ⟨(some 62), .lo (.mv (.t 61)), none⟩⟩,
  ⟨3, 7, ⟨(some 63), .lo (.mv (.t 16)), (some (62, true))⟩⟩,
  ⟨4, 15, ⟨(some 64), .lo (.eq false true (.iface [74]) (.t 63) (.c .nili)), (some (62, true))⟩⟩,
  ⟨5, 31, ⟨(some 65), .lo (.pick (.t 62) (.t 64) (.c (.bool false))), none⟩⟩,
  ⟨6, 63, ⟨(some 66), .lo (.mv (.t 65)), none⟩⟩,
  ⟨7, 127, ⟨(some 67), .lo (.mv (.t 18)), (some (66, true))⟩⟩,
  ⟨8, 255, ⟨(some 68), .lo (.eq false true (.iface [74]) (.t 67) (.c .nili)), (some (66, true))⟩⟩,
  ⟨9, 511, ⟨(some 69), .lo (.pick (.t 66) (.t 68) (.c (.bool false))), none⟩⟩,
  ⟨10, 1023, ⟨(some 70), .lo (.mv (.t 69)), none⟩⟩,
  ⟨12, 2047, ⟨(some 72), .lo (.mv (.t 12)), (some (70, true))⟩⟩,
  ⟨13, 4095, ⟨(some 73), .call 58 [(.t 72)], (some (70, true))⟩⟩,
  ⟨11, 2047, ⟨(some 71), .lo (.load true 32 (.t 13)), (some (70, true))⟩⟩,
  ⟨14, 16383, ⟨(some 74), .lo (.eq false false (.ar 32 1 false .int) (.t 71) (.t 73)), (some (70, true))⟩⟩,
  ⟨15, 32767, ⟨(some 75), .lo (.pick (.t 70) (.t 74) (.c (.bool false))), none⟩⟩,
  ⟨16, 65535, ⟨(some 76), .lo (.mv (.t 75)), none⟩⟩,
  ⟨17, 131071, ⟨(some 77), .lo (.load true 32 (.t 15)), (some (76, true))⟩⟩,
  ⟨18, 131071, ⟨(some 78), .lo (.load true 32 (.t 19)), (some (76, true))⟩⟩,
  ⟨19, 524287, ⟨(some 79), .lo (.eq false false (.ar 32 1 false .int) (.t 77) (.t 78)), (some (76, true))⟩⟩,
  ⟨20, 1048575, ⟨(some 80), .lo (.pick (.t 76) (.t 79) (.c (.bool false))), none⟩⟩,
  ⟨21, 2097151, ⟨(some 81), .lo (.mv (.t 80)), none⟩⟩,
  ⟨22, 4194303, ⟨(some 82), .lo (.load true 19 (.t 17)), (some (81, true))⟩⟩,
  ⟨23, 8388607, ⟨(some 83), .call 59 [(.t 82)], (some (81, true))⟩⟩,
  ⟨24, 4194303, ⟨(some 84), .lo (.mv (.t 12)), (some (81, true))⟩⟩,
  ⟨25, 33554431, ⟨(some 85), .call 61 [(.t 84)], (some (81, true))⟩⟩,
  ⟨26, 67108863, ⟨(some 86), .call 60 [(.t 85)], (some (81, true))⟩⟩,
  ⟨27, 134217727, ⟨(some 87), .lo (.eq false false (.ar 32 1 false .int) (.t 83) (.t 86)), (some (81, true))⟩⟩,
  ⟨28, 268435455, ⟨(some 88), .lo (.pick (.t 81) (.t 87) (.c (.bool false))), none⟩⟩,
  ⟨29, 536870911, ⟨(some 89), .lo (.mv (.t 88)), none⟩⟩,
  ⟨30, 1073741823, ⟨(some 90), .lo (.load true 32 (.t 15)), (some (89, true))⟩⟩,
  ⟨31, 1073741823, ⟨(some 91), .lo (.load true 19 (.t 17)), (some (89, true))⟩⟩,
  ⟨32, 4294967295, ⟨(some 92), .call 62 [(.t 90), (.t 91)], (some (89, true))⟩⟩,
  ⟨33, 1073741823, ⟨(some 93), .lo (.load true 32 (.t 13)), (some (89, true))⟩⟩,
  ⟨34, 17179869183, ⟨(some 94), .lo (.eq false false (.ar 32 1 false .int) (.t 92) (.t 93)), (some (89, true))⟩⟩,
  ⟨35, 34359738367, ⟨(some 95), .lo (.pick (.t 89) (.t 94) (.c (.bool false))), none⟩⟩,
  ⟨36, 68719476735, ⟨(some 96), .lo (.mv (.t 95)), none⟩⟩,
  ⟨37, 137438953471, ⟨(some 97), .lo (.fadr 16 (.t 17)), (some (96, true))⟩⟩,
  ⟨38, 274877906943, ⟨(some 98), .lo (.load false 1 (.t 97)), (some (96, true))⟩⟩,
  ⟨39, 137438953471, ⟨(some 99), .lo (.mv (.t 2)), (some (96, true))⟩⟩,
  ⟨40, 1099511627775, ⟨(some 100), .lo (.ari .eql (.t 98) (.t 99)), (some (96, true))⟩⟩,
  ⟨41, 2199023255551, ⟨(some 101), .lo (.pick (.t 96) (.t 100) (.c (.bool false))), none⟩⟩,
  ⟨42, 4398046511103, ⟨(some 102), .lo (.mv (.t 101)), none⟩⟩,
  ⟨43, 8796093022207, ⟨(some 103), .lo (.fadr 18 (.t 17)), (some (102, true))⟩⟩,
  ⟨44, 17592186044415, ⟨(some 104), .lo (.load false 1 (.t 103)), (some (102, true))⟩⟩,
  ⟨45, 8796093022207, ⟨(some 105), .lo (.mv (.t 3)), (some (102, true))⟩⟩,
  ⟨46, 70368744177663, ⟨(some 106), .lo (.ari .eql (.t 104) (.t 105)), (some (102, true))⟩⟩,
  ⟨47, 140737488355327, ⟨(some 107), .lo (.pick (.t 102) (.t 106) (.c (.bool false))), none⟩⟩,
  ⟨48, 281474976710655, ⟨(some 108), .lo (.mv (.t 107)), none⟩⟩,
  ⟨49, 562949953421311, ⟨(some 109), .lo (.fadr 17 (.t 17)), (some (108, true))⟩⟩,
  ⟨50, 1125899906842623, ⟨(some 110), .lo (.load false 1 (.t 109)), (some (108, true))⟩⟩,
  ⟨51, 562949953421311, ⟨(some 111), .lo (.mv (.t 4)), (some (108, true))⟩⟩,
  ⟨52, 4503599627370495, ⟨(some 112), .lo (.eq false false .bool (.t 110) (.t 111)), (some (108, true))⟩⟩,
  ⟨53, 9007199254740991, ⟨(some 113), .lo (.pick (.t 108) (.t 112) (.c (.bool false))), none⟩⟩,
  ⟨54, 18014398509481983, ⟨(some 114), .lo (.mv (.t 113)), none⟩⟩,
  ⟨55, 36028797018963967, ⟨(some 115), .lo (.fadr 0 (.t 17)), (some (114, true))⟩⟩,
  ⟨56, 72057594037927935, ⟨(some 116), .lo (.load true 16 (.t 115)), (some (114, true))⟩⟩,
  ⟨57, 36028797018963967, ⟨(some 117), .lo (.mv (.t 11)), (some (114, true))⟩⟩,
  ⟨58, 180143985094819839, ⟨(some 118), .lo (.nilc (.t 117)), (some (114, true))⟩⟩,
  ⟨59, 468374361246531583, ⟨(some 119), .lo (.fadr 8192 (.t 118)), (some (114, true))⟩⟩,
  ⟨60, 1044835113549955071, ⟨(some 120), .lo (.load true 16 (.t 119)), (some (114, true))⟩⟩,
  ⟨61, 2305843009213693951, ⟨(some 121), .lo (.eq false false (.ar 16 1 false .int) (.t 116) (.t 120)), (some (114, true))⟩⟩,
  ⟨62, 4611686018427387903, ⟨(some 122), .lo (.pick (.t 114) (.t 121) (.c (.bool false))), none⟩⟩,
  ⟨63, 9223372036854775807, ⟨(some 10), .lo (.mv (.t 122)), none⟩⟩])
 (.ret))))))))))

theorem cr_mid {M : Seat} {x : Ctx} (ok : OkA M) (okB : OkB M) (hx : x.k = 0) (f g : Nat → BitVec 64) (pc : BitVec 64) (hl : Bool) (xt : BitVec 64) :
    SemK M x (RetS M x [.tmp 10] (fun r H' k' => r = .bool true ∧ H' = [] ∧ k' = 0)) [.code crM] 4
      (fr 123 [(2, W pc), (3, W xt), (4, .bool hl), (11, .ptr 0 []), (12, .ptr 1 [])])
      [(0, mach f g pc hl xt), (1, refm 2 3 pc hl xt), (2, .ar 1 8192 (fun j => W (f j))), (3, .ar 1 16 (fun j => W (g j)))] := by
  have tail := cr_end ok okB hx f g pc hl xt
  (refine ex_sound 2 _ _ _ _ ?_; simp (maxSteps := 2000000) only [crM, LQ, ↓step_conv, OpD, epk, epochs, Mv.hx, idsOK, bs, wmask, LK.isW, LK.isA, LK.isP, step, num, X.ev, List.cons_append, List.nil_append, ne_eq, Nat.reduceLT, Int.reduceLE, Int.reduceLT, Int.cast_ofNat_Int, Nat.reducePow, Nat.reduceAnd, Nat.reduceOr, Nat.reduceShiftRight, BEq.rfl, Int.reduceToNat, vpick, vopt, optInt, isInt, vbuild, vbuildOK, vcaps, vcapsOK, elems, elemsOK, List.length_cons, List.length_nil, hget, hset, hdel, hhas, padd, V.ok, V.get, V.set, V.fget, V.fhas, V.fset, noR, Z.v, Z.sz, if_true, if_false, ite_true, ite_false, cond_true, cond_false, reduceCtorEq, forall_const, Nat.reduceAdd, Nat.reduceMul, Nat.reduceSub, Nat.reduceBEq, Nat.reduceEqDiff, dropTo, List.map_cons, List.map_nil, List.filter_cons, List.filter_nil, Nat.reduceLeDiff, Nat.testBit, Nat.reduceBneDiff, bne_self_eq_false, Nat.reduceBNe, ↓reduceIte, eqP_nn, eqV_nn, eqP_in, eqV_in, eqP_pn, eqV_pn, eqP_mn, eqV_mn])
  refine call_pureL [0] (runs_Of ok okB f g pc hl xt) (by simp only [SimA, SimV_imm, Sim_mach, solid_mach, LT, SimL, ne_eq, Nat.reduceLT, SimA, Sim, SimH, frz, hget, hhas, List.getElem?_cons_zero, List.getElem?_cons_succ, List.getElem?_nil, BEq.rfl, if_true, reduceCtorEq, Option.some.injEq, Nat.reduceEqDiff, if_false, List.contains_cons, List.contains_nil, V.ok, V.get, V.fget, V.fhas, Nat.reduceLeDiff, implies_true, Nat.reduceBEq, Int.cast_ofNat_Int]) rfl (by simp only [tup2, NoIm, dg, B, implies_true, and_self]) ?_
  simp only [tup2, LQ, ↓step_conv, OpD, epk, epochs, Mv.hx, idsOK, bs, wmask, LK.isW, LK.isA, LK.isP, step, num, X.ev, List.cons_append, List.nil_append, ne_eq, Nat.reduceLT, Int.reduceLE, Int.reduceLT, Int.cast_ofNat_Int, Nat.reducePow, Nat.reduceAnd, Nat.reduceOr, Nat.reduceShiftRight, BEq.rfl, Int.reduceToNat, vpick, vopt, optInt, isInt, vbuild, vbuildOK, vcaps, vcapsOK, elems, elemsOK, List.length_cons, List.length_nil, hget, hset, hdel, hhas, padd, V.ok, V.get, V.set, V.fget, V.fhas, V.fset, noR, Z.v, Z.sz, if_true, if_false, ite_true, ite_false, cond_true, cond_false, reduceCtorEq, forall_const, Nat.reduceAdd, Nat.reduceMul, Nat.reduceSub, Nat.reduceBEq, Nat.reduceEqDiff, dropTo, List.map_cons, List.map_nil, List.filter_cons, List.filter_nil, Nat.reduceLeDiff, Nat.testBit, Nat.reduceBneDiff, bne_self_eq_false, Nat.reduceBNe, ↓reduceIte, eqP_nn, eqV_nn, eqP_in, eqV_in, eqP_pn, eqV_pn, eqP_mn, eqV_mn]
  (refine ex_sound 2 _ _ _ _ ?_; simp (maxSteps := 2000000) only [LQ, ↓step_conv, OpD, epk, epochs, Mv.hx, idsOK, bs, wmask, LK.isW, LK.isA, LK.isP, step, num, X.ev, List.cons_append, List.nil_append, ne_eq, Nat.reduceLT, Int.reduceLE, Int.reduceLT, Int.cast_ofNat_Int, Nat.reducePow, Nat.reduceAnd, Nat.reduceOr, Nat.reduceShiftRight, BEq.rfl, Int.reduceToNat, vpick, vopt, optInt, isInt, vbuild, vbuildOK, vcaps, vcapsOK, elems, elemsOK, List.length_cons, List.length_nil, hget, hset, hdel, hhas, padd, V.ok, V.get, V.set, V.fget, V.fhas, V.fset, noR, Z.v, Z.sz, if_true, if_false, ite_true, ite_false, cond_true, cond_false, reduceCtorEq, forall_const, Nat.reduceAdd, Nat.reduceMul, Nat.reduceSub, Nat.reduceBEq, Nat.reduceEqDiff, dropTo, List.map_cons, List.map_nil, List.filter_cons, List.filter_nil, Nat.reduceLeDiff, Nat.testBit, Nat.reduceBneDiff, bne_self_eq_false, Nat.reduceBNe, ↓reduceIte, eqP_nn, eqV_nn, eqP_in, eqV_in, eqP_pn, eqV_pn, eqP_mn, eqV_mn])
  refine call_pureL [0] (runs_cRoot ok f g pc hl xt) (by simp only [SimA, SimV_imm, Sim_mach, solid_mach, LT, SimL, ne_eq, Nat.reduceLT, SimA, Sim, SimH, frz, hget, hhas, List.getElem?_cons_zero, List.getElem?_cons_succ, List.getElem?_nil, BEq.rfl, if_true, reduceCtorEq, Option.some.injEq, Nat.reduceEqDiff, if_false, List.contains_cons, List.contains_nil, V.ok, V.get, V.fget, V.fhas, Nat.reduceLeDiff, implies_true, Nat.reduceBEq, Int.cast_ofNat_Int]) rfl (by simp only [tup2, NoIm, dg, B, implies_true, and_self]) ?_
  simp only [tup2, LQ, ↓step_conv, OpD, epk, epochs, Mv.hx, idsOK, bs, wmask, LK.isW, LK.isA, LK.isP, step, num, X.ev, List.cons_append, List.nil_append, ne_eq, Nat.reduceLT, Int.reduceLE, Int.reduceLT, Int.cast_ofNat_Int, Nat.reducePow, Nat.reduceAnd, Nat.reduceOr, Nat.reduceShiftRight, BEq.rfl, Int.reduceToNat, vpick, vopt, optInt, isInt, vbuild, vbuildOK, vcaps, vcapsOK, elems, elemsOK, List.length_cons, List.length_nil, hget, hset, hdel, hhas, padd, V.ok, V.get, V.set, V.fget, V.fhas, V.fset, noR, Z.v, Z.sz, if_true, if_false, ite_true, ite_false, cond_true, cond_false, reduceCtorEq, forall_const, Nat.reduceAdd, Nat.reduceMul, Nat.reduceSub, Nat.reduceBEq, Nat.reduceEqDiff, dropTo, List.map_cons, List.map_nil, List.filter_cons, List.filter_nil, Nat.reduceLeDiff, Nat.testBit, Nat.reduceBneDiff, bne_self_eq_false, Nat.reduceBNe, ↓reduceIte, eqP_nn, eqV_nn, eqP_in, eqV_in, eqP_pn, eqV_pn, eqP_mn, eqV_mn]
  (refine ex_sound 2 _ _ _ _ ?_; simp (maxSteps := 2000000) only [LQ, ↓step_conv, OpD, epk, epochs, Mv.hx, idsOK, bs, wmask, LK.isW, LK.isA, LK.isP, step, num, X.ev, List.cons_append, List.nil_append, ne_eq, Nat.reduceLT, Int.reduceLE, Int.reduceLT, Int.cast_ofNat_Int, Nat.reducePow, Nat.reduceAnd, Nat.reduceOr, Nat.reduceShiftRight, BEq.rfl, Int.reduceToNat, vpick, vopt, optInt, isInt, vbuild, vbuildOK, vcaps, vcapsOK, elems, elemsOK, List.length_cons, List.length_nil, hget, hset, hdel, hhas, padd, V.ok, V.get, V.set, V.fget, V.fhas, V.fset, noR, Z.v, Z.sz, if_true, if_false, ite_true, ite_false, cond_true, cond_false, reduceCtorEq, forall_const, Nat.reduceAdd, Nat.reduceMul, Nat.reduceSub, Nat.reduceBEq, Nat.reduceEqDiff, dropTo, List.map_cons, List.map_nil, List.filter_cons, List.filter_nil, Nat.reduceLeDiff, Nat.testBit, Nat.reduceBneDiff, bne_self_eq_false, Nat.reduceBNe, ↓reduceIte, eqP_nn, eqV_nn, eqP_in, eqV_in, eqP_pn, eqV_pn, eqP_mn, eqV_mn])
  refine call_pureL [0] (runs_Head okB f g pc hl xt) (by simp only [SimA, SimV_imm, Sim_mach, solid_mach, LT, SimL, ne_eq, Nat.reduceLT, SimA, Sim, SimH, frz, hget, hhas, List.getElem?_cons_zero, List.getElem?_cons_succ, List.getElem?_nil, BEq.rfl, if_true, reduceCtorEq, Option.some.injEq, Nat.reduceEqDiff, if_false, List.contains_cons, List.contains_nil, V.ok, V.get, V.fget, V.fhas, Nat.reduceLeDiff, implies_true, Nat.reduceBEq, Int.cast_ofNat_Int]) rfl (by simp only [tup2, NoIm, hdV, W, implies_true, and_self]) ?_
  simp only [tup2, hdV, LQ, ↓step_conv, OpD, epk, epochs, Mv.hx, idsOK, bs, wmask, LK.isW, LK.isA, LK.isP, step, num, X.ev, List.cons_append, List.nil_append, ne_eq, Nat.reduceLT, Int.reduceLE, Int.reduceLT, Int.cast_ofNat_Int, Nat.reducePow, Nat.reduceAnd, Nat.reduceOr, Nat.reduceShiftRight, BEq.rfl, Int.reduceToNat, vpick, vopt, optInt, isInt, vbuild, vbuildOK, vcaps, vcapsOK, elems, elemsOK, List.length_cons, List.length_nil, hget, hset, hdel, hhas, padd, V.ok, V.get, V.set, V.fget, V.fhas, V.fset, noR, Z.v, Z.sz, if_true, if_false, ite_true, ite_false, cond_true, cond_false, reduceCtorEq, forall_const, Nat.reduceAdd, Nat.reduceMul, Nat.reduceSub, Nat.reduceBEq, Nat.reduceEqDiff, dropTo, List.map_cons, List.map_nil, List.filter_cons, List.filter_nil, Nat.reduceLeDiff, Nat.testBit, Nat.reduceBneDiff, bne_self_eq_false, Nat.reduceBNe, ↓reduceIte, eqP_nn, eqV_nn, eqP_in, eqV_in, eqP_pn, eqV_pn, eqP_mn, eqV_mn]
  (refine ex_sound 2 _ _ _ _ ?_; simp (maxSteps := 2000000) only [refm, LQ, ↓step_conv, OpD, epk, epochs, Mv.hx, idsOK, bs, wmask, LK.isW, LK.isA, LK.isP, step, num, X.ev, List.cons_append, List.nil_append, ne_eq, Nat.reduceLT, Int.reduceLE, Int.reduceLT, Int.cast_ofNat_Int, Nat.reducePow, Nat.reduceAnd, Nat.reduceOr, Nat.reduceShiftRight, BEq.rfl, Int.reduceToNat, vpick, vopt, optInt, isInt, vbuild, vbuildOK, vcaps, vcapsOK, elems, elemsOK, List.length_cons, List.length_nil, hget, hset, hdel, hhas, padd, V.ok, V.get, V.set, V.fget, V.fhas, V.fset, noR, Z.v, Z.sz, if_true, if_false, ite_true, ite_false, cond_true, cond_false, reduceCtorEq, forall_const, Nat.reduceAdd, Nat.reduceMul, Nat.reduceSub, Nat.reduceBEq, Nat.reduceEqDiff, dropTo, List.map_cons, List.map_nil, List.filter_cons, List.filter_nil, Nat.reduceLeDiff, Nat.testBit, Nat.reduceBneDiff, bne_self_eq_false, Nat.reduceBNe, ↓reduceIte, eqP_nn, eqV_nn, eqP_in, eqV_in, eqP_pn, eqV_pn, eqP_mn, eqV_mn])
  refine call_runs (runs_refLeaves okB f) True [] [2] List.nodup_nil (by simp) rfl (by simp) (by simp only [LT, SimL, ne_eq, Nat.reduceLT, SimA, Sim, SimH, frz, hget, hhas, List.getElem?_cons_zero, List.getElem?_cons_succ, List.getElem?_nil, BEq.rfl, if_true, reduceCtorEq, Option.some.injEq, Nat.reduceEqDiff, if_false, List.contains_cons, List.contains_nil, V.ok, V.get, V.fget, V.fhas, Nat.reduceLeDiff, implies_true, Nat.reduceBEq, Int.cast_ofNat_Int]) trivial ?_
  rintro v H' k' ⟨n, hn, hz, h⟩
  have hmem : node (lvs f n) 13 0 = memN f 13 0 := node_mem f n hn hz 13 0
  rcases h with ⟨hn0, rfl, rfl, rfl⟩ | ⟨hn0, rfl, rfl, rfl⟩
  · refine ⟨⟨by omega, fun _ => ⟨trivial, fun id h => by simp [hhas] at h⟩⟩, ?_⟩
    simp only [nums0, LN, V.ren, renH, hrest, hdel, ren_lvV, List.getElem?_cons_zero, List.getElem?_cons_succ, List.append_nil, List.nil_append, List.cons_append, ne_eq, if_false, if_true, Nat.reduceEqDiff, reduceCtorEq]
    refine call_pure (runs_refRoot okB 13 (by omega) (lvs f n) .nils (.inr ⟨rfl, by rw [hn0]; rfl⟩) (by rw [lvs_len]; omega)) (by simp only [LT, SimL, ne_eq, Nat.reduceLT, SimA, Sim, SimH, frz, hget, hhas, List.getElem?_cons_zero, List.getElem?_cons_succ, List.getElem?_nil, BEq.rfl, if_true, reduceCtorEq, Option.some.injEq, Nat.reduceEqDiff, if_false, List.contains_cons, List.contains_nil, V.ok, V.get, V.fget, V.fhas, Nat.reduceLeDiff, implies_true, Nat.reduceBEq, Int.cast_ofNat_Int]) rfl ?_
    simp only [hmem, tup2, LQ, ↓step_conv, OpD, epk, epochs, Mv.hx, idsOK, bs, wmask, LK.isW, LK.isA, LK.isP, step, num, X.ev, List.cons_append, List.nil_append, ne_eq, Nat.reduceLT, Int.reduceLE, Int.reduceLT, Int.cast_ofNat_Int, Nat.reducePow, Nat.reduceAnd, Nat.reduceOr, Nat.reduceShiftRight, BEq.rfl, Int.reduceToNat, vpick, vopt, optInt, isInt, vbuild, vbuildOK, vcaps, vcapsOK, elems, elemsOK, List.length_cons, List.length_nil, hget, hset, hdel, hhas, padd, V.ok, V.get, V.set, V.fget, V.fhas, V.fset, noR, Z.v, Z.sz, if_true, if_false, ite_true, ite_false, cond_true, cond_false, reduceCtorEq, forall_const, Nat.reduceAdd, Nat.reduceMul, Nat.reduceSub, Nat.reduceBEq, Nat.reduceEqDiff, dropTo, List.map_cons, List.map_nil, List.filter_cons, List.filter_nil, Nat.reduceLeDiff, Nat.testBit, Nat.reduceBneDiff, bne_self_eq_false, Nat.reduceBNe, ↓reduceIte, eqP_nn, eqV_nn, eqP_in, eqV_in, eqP_pn, eqV_pn, eqP_mn, eqV_mn]
    refine SemK.weak _ _ _ ?_ tail
    refine Weak.fr [0, 1, 2, 3, 84, 212, 340, 532] [] hx (by simp only [fr_length]) (by decide) ?_ ?_
    · simp only [LT, SimL, ne_eq, Nat.reduceLT, SimA, Sim, SimH, frz, hget, hhas, List.getElem?_cons_zero, List.getElem?_cons_succ, List.getElem?_nil, BEq.rfl, if_true, reduceCtorEq, Option.some.injEq, Nat.reduceEqDiff, if_false, List.contains_cons, List.contains_nil, V.ok, V.get, V.fget, V.fhas, Nat.reduceLeDiff, implies_true, Nat.reduceBEq, Int.cast_ofNat_Int]
    · simp only [hdV, refm, Sim_mach, LT, SimL, ne_eq, Nat.reduceLT, SimA, Sim, SimH, frz, hget, hhas, List.getElem?_cons_zero, List.getElem?_cons_succ, List.getElem?_nil, BEq.rfl, if_true, reduceCtorEq, Option.some.injEq, Nat.reduceEqDiff, if_false, List.contains_cons, List.contains_nil, V.ok, V.get, V.fget, V.fhas, Nat.reduceLeDiff, implies_true, Nat.reduceBEq, Int.cast_ofNat_Int]
  · refine ⟨⟨by omega, fun _ => ⟨trivial, fun id h => ?_⟩⟩, ?_⟩
    · simp only [hhas, Bool.or_false, beq_iff_eq] at h
      subst h
      simp only [hget, if_true, NoIm, dg, B, implies_true]
    simp only [nums1, LN, V.ren, renH, hrest, hdel, ren_lvV, List.getElem?_cons_zero, List.getElem?_cons_succ, List.append_nil, List.nil_append, List.cons_append, ne_eq, if_false, if_true, Nat.reduceEqDiff, reduceCtorEq]
    refine call_pureZ [452] (runs_refRoot okB 13 (by omega) (lvs f n) (row (lvs f n)) (.inl rfl) (by rw [lvs_len]; omega)) ⟨rfl, ?_, trivial⟩ rfl ?_
    · simp only [row, lvs_len, LT, SimL, ne_eq, Nat.reduceLT, SimA, Sim, SimH, frz, hget, hhas, List.getElem?_cons_zero, List.getElem?_cons_succ, List.getElem?_nil, BEq.rfl, if_true, reduceCtorEq, Option.some.injEq, Nat.reduceEqDiff, if_false, List.contains_cons, List.contains_nil, V.ok, V.get, V.fget, V.fhas, Nat.reduceLeDiff, implies_true, Nat.reduceBEq, Int.cast_ofNat_Int]
      intro j hj
      exact (lvs_at _ _ _ hj _).symm
    simp only [hrest, hmem, tup2, LQ, ↓step_conv, OpD, epk, epochs, Mv.hx, idsOK, bs, wmask, LK.isW, LK.isA, LK.isP, step, num, X.ev, List.cons_append, List.nil_append, ne_eq, Nat.reduceLT, Int.reduceLE, Int.reduceLT, Int.cast_ofNat_Int, Nat.reducePow, Nat.reduceAnd, Nat.reduceOr, Nat.reduceShiftRight, BEq.rfl, Int.reduceToNat, vpick, vopt, optInt, isInt, vbuild, vbuildOK, vcaps, vcapsOK, elems, elemsOK, List.length_cons, List.length_nil, hget, hset, hdel, hhas, padd, V.ok, V.get, V.set, V.fget, V.fhas, V.fset, noR, Z.v, Z.sz, if_true, if_false, ite_true, ite_false, cond_true, cond_false, reduceCtorEq, forall_const, Nat.reduceAdd, Nat.reduceMul, Nat.reduceSub, Nat.reduceBEq, Nat.reduceEqDiff, dropTo, List.map_cons, List.map_nil, List.filter_cons, List.filter_nil, Nat.reduceLeDiff, Nat.testBit, Nat.reduceBneDiff, bne_self_eq_false, Nat.reduceBNe, ↓reduceIte, eqP_nn, eqV_nn, eqP_in, eqV_in, eqP_pn, eqV_pn, eqP_mn, eqV_mn, LN, V.ren, renH, hrest, hdel, ren_lvV, List.getElem?_cons_zero, List.getElem?_cons_succ, List.append_nil, List.nil_append, List.cons_append, ne_eq, if_false, if_true, Nat.reduceEqDiff, reduceCtorEq]
    refine SemK.weak _ _ _ ?_ tail
    refine Weak.fr [0, 1, 2, 3, 84, 212, 340, 532] [] hx (by simp only [fr_length]) (by decide) ?_ ?_
    · simp only [LT, SimL, ne_eq, Nat.reduceLT, SimA, Sim, SimH, frz, hget, hhas, List.getElem?_cons_zero, List.getElem?_cons_succ, List.getElem?_nil, BEq.rfl, if_true, reduceCtorEq, Option.some.injEq, Nat.reduceEqDiff, if_false, List.contains_cons, List.contains_nil, V.ok, V.get, V.fget, V.fhas, Nat.reduceLeDiff, implies_true, Nat.reduceBEq, Int.cast_ofNat_Int]
    · simp only [hdV, refm, Sim_mach, LT, SimL, ne_eq, Nat.reduceLT, SimA, Sim, SimH, frz, hget, hhas, List.getElem?_cons_zero, List.getElem?_cons_succ, List.getElem?_nil, BEq.rfl, if_true, reduceCtorEq, Option.some.injEq, Nat.reduceEqDiff, if_false, List.contains_cons, List.contains_nil, V.ok, V.get, V.fget, V.fhas, Nat.reduceLeDiff, implies_true, Nat.reduceBEq, Int.cast_ofNat_Int]

theorem runs_CommitRoots {M : Seat} (ok : OkA M) (okB : OkB M) (hne : foldN 5 (leafD 1) (pth (fun _ => 0) 5) 13 ≠ nought 13) (cs : List (BitVec 64 × BitVec 64)) (cv : V) (hcv : cv = cellsV cs ∨ (cv = .nils ∧ cs = [])) (hcl : cs.length < 9223372036854775808)
    (rs : List (BitVec 64)) (rv : V) (hrv : rv = wordsV rs ∨ (rv = .nils ∧ rs = [])) (hrl : rs.length < 9223372036854775808) (pc xt : BitVec 64) (hl : Bool) :
    Runs M 4 [cv, rv, W pc, W xt, .bool hl] [] 0 (fun r H' k' => r = .bool true ∧ H' = [] ∧ k' = 0) := by
  refine runs_fr okB.k4 rfl fun x hx => ?_
  refine ex_sound 4 _ _ _ _ ?_
  simp only [f4, c4, LQ, ↓step_conv, OpD, epk, epochs, Mv.hx, idsOK, bs, wmask, LK.isW, LK.isA, LK.isP, step, num, X.ev, List.cons_append, List.nil_append, ne_eq, Nat.reduceLT, Int.reduceLE, Int.reduceLT, Int.cast_ofNat_Int, Nat.reducePow, Nat.reduceAnd, Nat.reduceOr, Nat.reduceShiftRight, BEq.rfl, Int.reduceToNat, vpick, vopt, optInt, isInt, vbuild, vbuildOK, vcaps, vcapsOK, elems, elemsOK, List.length_cons, List.length_nil, hget, hset, hdel, hhas, padd, V.ok, V.get, V.set, V.fget, V.fhas, V.fset, noR, Z.v, Z.sz, if_true, if_false, ite_true, ite_false, cond_true, cond_false, reduceCtorEq, forall_const, Nat.reduceAdd, Nat.reduceMul, Nat.reduceSub, Nat.reduceBEq, Nat.reduceEqDiff, dropTo, List.map_cons, List.map_nil, List.filter_cons, List.filter_nil, Nat.reduceLeDiff, Nat.testBit, Nat.reduceBneDiff, bne_self_eq_false, Nat.reduceBNe, ↓reduceIte, eqP_nn, eqV_nn, eqP_in, eqV_in, eqP_pn, eqV_pn, eqP_mn, eqV_mn]
  have hL := runs_laid ok cs cv hcv hcl rs rv hrv hrl pc hl xt
  have hcvS : ∀ H m z, SimV H m z cv cv := by
    intro H m z
    rcases hcv with h | ⟨h, _⟩ <;> subst h
    · simp only [cellsV, cellV, LT, SimL, ne_eq, Nat.reduceLT, SimA, Sim, SimH, frz, hget, hhas, List.getElem?_cons_zero, List.getElem?_cons_succ, List.getElem?_nil, BEq.rfl, if_true, reduceCtorEq, Option.some.injEq, Nat.reduceEqDiff, if_false, List.contains_cons, List.contains_nil, V.ok, V.get, V.fget, V.fhas, Nat.reduceLeDiff, implies_true, Nat.reduceBEq, Int.cast_ofNat_Int]
    · simp only [SimV_nils, Sim]
  have hrvS : ∀ H m z, SimV H m z rv rv := by
    intro H m z
    rcases hrv with h | ⟨h, _⟩ <;> subst h
    · simp only [wordsV, LT, SimL, ne_eq, Nat.reduceLT, SimA, Sim, SimH, frz, hget, hhas, List.getElem?_cons_zero, List.getElem?_cons_succ, List.getElem?_nil, BEq.rfl, if_true, reduceCtorEq, Option.some.injEq, Nat.reduceEqDiff, if_false, List.contains_cons, List.contains_nil, V.ok, V.get, V.fget, V.fhas, Nat.reduceLeDiff, implies_true, Nat.reduceBEq, Int.cast_ofNat_Int]
    · simp only [SimV_nils, Sim]
  refine call_runs hL False [] [] List.nodup_nil (by simp) rfl (by simp) (by simp only [SimA, hcvS, hrvS, LT, SimL, ne_eq, Nat.reduceLT, SimA, Sim, SimH, frz, hget, hhas, List.getElem?_cons_zero, List.getElem?_cons_succ, List.getElem?_nil, BEq.rfl, if_true, reduceCtorEq, Option.some.injEq, Nat.reduceEqDiff, if_false, List.contains_cons, List.contains_nil, V.ok, V.get, V.fget, V.fhas, Nat.reduceLeDiff, implies_true, Nat.reduceBEq, Int.cast_ofNat_Int]) trivial ?_
  rintro r H' k' ⟨rfl, rfl, rfl⟩
  refine ⟨⟨by omega, fun h => h.elim⟩, ?_⟩
  generalize memF cs (min cs.length 100) = f
  generalize regF rs (min rs.length 16) = g
  have hnum : nums [] 96 4 = [96, 97, 98, 99] := rfl
  simp only [hnum, laidH, tup2, refm, ren_mach, LN, V.ren, renH, hrest, hdel, ren_lvV, List.getElem?_cons_zero, List.getElem?_cons_succ, List.append_nil, List.nil_append, List.cons_append, ne_eq, if_false, if_true, Nat.reduceEqDiff, reduceCtorEq]
  simp only [LQ, ↓step_conv, OpD, epk, epochs, Mv.hx, idsOK, bs, wmask, LK.isW, LK.isA, LK.isP, step, num, X.ev, List.cons_append, List.nil_append, ne_eq, Nat.reduceLT, Int.reduceLE, Int.reduceLT, Int.cast_ofNat_Int, Nat.reducePow, Nat.reduceAnd, Nat.reduceOr, Nat.reduceShiftRight, BEq.rfl, Int.reduceToNat, vpick, vopt, optInt, isInt, vbuild, vbuildOK, vcaps, vcapsOK, elems, elemsOK, List.length_cons, List.length_nil, hget, hset, hdel, hhas, padd, V.ok, V.get, V.set, V.fget, V.fhas, V.fset, noR, Z.v, Z.sz, if_true, if_false, ite_true, ite_false, cond_true, cond_false, reduceCtorEq, forall_const, Nat.reduceAdd, Nat.reduceMul, Nat.reduceSub, Nat.reduceBEq, Nat.reduceEqDiff, dropTo, List.map_cons, List.map_nil, List.filter_cons, List.filter_nil, Nat.reduceLeDiff, Nat.testBit, Nat.reduceBneDiff, bne_self_eq_false, Nat.reduceBNe, ↓reduceIte, eqP_nn, eqV_nn, eqP_in, eqV_in, eqP_pn, eqV_pn, eqP_mn, eqV_mn]
  (refine ex_sound 3 _ _ _ _ ?_; simp (maxSteps := 2000000) only [eqP_in, eqP_mn, eqP_nn, eqP_pn, eqV_in, eqV_mn, eqV_nn, eqV_pn, LQ, ↓step_conv, OpD, epk, epochs, Mv.hx, idsOK, bs, wmask, LK.isW, LK.isA, LK.isP, step, num, X.ev, List.cons_append, List.nil_append, ne_eq, Nat.reduceLT, Int.reduceLE, Int.reduceLT, Int.cast_ofNat_Int, Nat.reducePow, Nat.reduceAnd, Nat.reduceOr, Nat.reduceShiftRight, BEq.rfl, Int.reduceToNat, vpick, vopt, optInt, isInt, vbuild, vbuildOK, vcaps, vcapsOK, elems, elemsOK, List.length_cons, List.length_nil, hget, hset, hdel, hhas, padd, V.ok, V.get, V.set, V.fget, V.fhas, V.fset, noR, Z.v, Z.sz, if_true, if_false, ite_true, ite_false, cond_true, cond_false, reduceCtorEq, forall_const, Nat.reduceAdd, Nat.reduceMul, Nat.reduceSub, Nat.reduceBEq, Nat.reduceEqDiff, dropTo, List.map_cons, List.map_nil, List.filter_cons, List.filter_nil, Nat.reduceLeDiff, Nat.testBit, Nat.reduceBneDiff, bne_self_eq_false, Nat.reduceBNe, ↓reduceIte, eqP_nn, eqV_nn, eqP_in, eqV_in, eqP_pn, eqV_pn, eqP_mn, eqV_mn])
  refine call_pure (runs_fixed ok hne) trivial rfl ?_
  simp only [LQ, ↓step_conv, OpD, epk, epochs, Mv.hx, idsOK, bs, wmask, LK.isW, LK.isA, LK.isP, step, num, X.ev, List.cons_append, List.nil_append, ne_eq, Nat.reduceLT, Int.reduceLE, Int.reduceLT, Int.cast_ofNat_Int, Nat.reducePow, Nat.reduceAnd, Nat.reduceOr, Nat.reduceShiftRight, BEq.rfl, Int.reduceToNat, vpick, vopt, optInt, isInt, vbuild, vbuildOK, vcaps, vcapsOK, elems, elemsOK, List.length_cons, List.length_nil, hget, hset, hdel, hhas, padd, V.ok, V.get, V.set, V.fget, V.fhas, V.fset, noR, Z.v, Z.sz, if_true, if_false, ite_true, ite_false, cond_true, cond_false, reduceCtorEq, forall_const, Nat.reduceAdd, Nat.reduceMul, Nat.reduceSub, Nat.reduceBEq, Nat.reduceEqDiff, dropTo, List.map_cons, List.map_nil, List.filter_cons, List.filter_nil, Nat.reduceLeDiff, Nat.testBit, Nat.reduceBneDiff, bne_self_eq_false, Nat.reduceBNe, ↓reduceIte, eqP_nn, eqV_nn, eqP_in, eqV_in, eqP_pn, eqV_pn, eqP_mn, eqV_mn]
  (refine ex_sound 2 _ _ _ _ ?_; simp (maxSteps := 2000000) only [eqP_in, eqP_mn, eqP_nn, eqP_pn, eqV_in, eqV_mn, eqV_nn, eqV_pn, LQ, ↓step_conv, OpD, epk, epochs, Mv.hx, idsOK, bs, wmask, LK.isW, LK.isA, LK.isP, step, num, X.ev, List.cons_append, List.nil_append, ne_eq, Nat.reduceLT, Int.reduceLE, Int.reduceLT, Int.cast_ofNat_Int, Nat.reducePow, Nat.reduceAnd, Nat.reduceOr, Nat.reduceShiftRight, BEq.rfl, Int.reduceToNat, vpick, vopt, optInt, isInt, vbuild, vbuildOK, vcaps, vcapsOK, elems, elemsOK, List.length_cons, List.length_nil, hget, hset, hdel, hhas, padd, V.ok, V.get, V.set, V.fget, V.fhas, V.fset, noR, Z.v, Z.sz, if_true, if_false, ite_true, ite_false, cond_true, cond_false, reduceCtorEq, forall_const, Nat.reduceAdd, Nat.reduceMul, Nat.reduceSub, Nat.reduceBEq, Nat.reduceEqDiff, dropTo, List.map_cons, List.map_nil, List.filter_cons, List.filter_nil, Nat.reduceLeDiff, Nat.testBit, Nat.reduceBneDiff, bne_self_eq_false, Nat.reduceBNe, ↓reduceIte, eqP_nn, eqV_nn, eqP_in, eqV_in, eqP_pn, eqV_pn, eqP_mn, eqV_mn])
  refine SemK.weak _ _ _ ?_ (cr_mid ok okB hx f g pc hl xt)
  refine Weak.fr [96, 97, 98, 99] [] hx (by simp only [fr_length]) (by decide) ?_ ?_
  · simp only [LT, SimL, ne_eq, Nat.reduceLT, SimA, Sim, SimH, frz, hget, hhas, List.getElem?_cons_zero, List.getElem?_cons_succ, List.getElem?_nil, BEq.rfl, if_true, reduceCtorEq, Option.some.injEq, Nat.reduceEqDiff, if_false, List.contains_cons, List.contains_nil, V.ok, V.get, V.fget, V.fhas, Nat.reduceLeDiff, implies_true, Nat.reduceBEq, Int.cast_ofNat_Int]
  · simp only [refm, Sim_mach, LT, SimL, ne_eq, Nat.reduceLT, SimA, Sim, SimH, frz, hget, hhas, List.getElem?_cons_zero, List.getElem?_cons_succ, List.getElem?_nil, BEq.rfl, if_true, reduceCtorEq, Option.some.injEq, Nat.reduceEqDiff, if_false, List.contains_cons, List.contains_nil, V.ok, V.get, V.fget, V.fhas, Nat.reduceLeDiff, implies_true, Nat.reduceBEq, Int.cast_ofNat_Int]
end Mv
