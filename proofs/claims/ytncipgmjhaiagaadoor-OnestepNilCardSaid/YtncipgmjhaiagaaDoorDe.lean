/- merkle: levels. -/
import Derived.Test.YtncipgmjhaiagaaDoorDeB
set_option linter.unusedSimpArgs false
set_option linter.unusedVariables false
namespace Mv
open Go
set_option maxRecDepth 20000
set_option maxHeartbeats 4000000
set_option linter.unusedSimpArgs false

theorem runs_levels {M : Seat} (ok : OkM M) (d : Nat) (hd : d ≤ 16) (l : List Dg) (hl : l.length ≤ 2 ^ d) :
    Runs M 316 [.int .i64 d, row l] [] 0 (fun r H' k' => r = tup3 (.sl 0 [] 0 (d + 1) 1) (.ar 32 17 (fun j => dg (nought j))) .nili ∧ H' = [(0, .ar 1 (d + 1) (lvV l))] ∧ k' = 1) := by
  refine runs_fr ok.k316 rfl fun x hx => ?_
  refine ex_sound 30 _ _ _ _ ?_
  simp only [f316, c316, row, LR, ↓step_conv, ex, Ro, RoD, OpD, epk, epochs, Mv.hx, idsOK, bs, wmask, LK.isW, LK.isA, LK.isP, step, num, X.ev, List.cons_append, List.nil_append, ne_eq, Nat.reduceLT, Int.reduceLE, Int.reduceLT, Int.cast_ofNat_Int, Nat.reducePow, Nat.reduceAnd, Nat.reduceOr, Nat.reduceShiftRight, BEq.rfl, Int.reduceToNat, vpick, vopt, optInt, isInt, vbuild, vbuildOK, vcaps, vcapsOK, elems, elemsOK, List.length_cons, List.length_nil, hget, hset, hdel, hhas, padd, V.ok, V.get, V.set, V.fget, V.fhas, V.fset, noR, Z.v, Z.sz, if_true, if_false, ite_true, ite_false, cond_true, cond_false, reduceCtorEq, forall_const, Nat.reduceAdd, Nat.reduceMul, Nat.reduceSub, Nat.reduceBEq, Nat.reduceEqDiff, dropTo, List.map_cons, List.map_nil, List.filter_cons, List.filter_nil]
  refine call_pure (runs_noughts ok) trivial rfl ?_
  simp only [LR, ↓step_conv, ex, Ro, RoD, OpD, epk, epochs, Mv.hx, idsOK, bs, wmask, LK.isW, LK.isA, LK.isP, step, num, X.ev, List.cons_append, List.nil_append, ne_eq, Nat.reduceLT, Int.reduceLE, Int.reduceLT, Int.cast_ofNat_Int, Nat.reducePow, Nat.reduceAnd, Nat.reduceOr, Nat.reduceShiftRight, BEq.rfl, Int.reduceToNat, vpick, vopt, optInt, isInt, vbuild, vbuildOK, vcaps, vcapsOK, elems, elemsOK, List.length_cons, List.length_nil, hget, hset, hdel, hhas, padd, V.ok, V.get, V.set, V.fget, V.fhas, V.fset, noR, Z.v, Z.sz, if_true, if_false, ite_true, ite_false, cond_true, cond_false, reduceCtorEq, forall_const, Nat.reduceAdd, Nat.reduceMul, Nat.reduceSub, Nat.reduceBEq, Nat.reduceEqDiff, dropTo, List.map_cons, List.map_nil, List.filter_cons, List.filter_nil]
  have h1 : decide ((d : Int) < 0) = false := by simp
  have h2 : decide ((16 : Int) < d) = false := by simp; omega
  simp only [h1, h2, LR, ↓step_conv, ex, Ro, RoD, OpD, epk, epochs, Mv.hx, idsOK, bs, wmask, LK.isW, LK.isA, LK.isP, step, num, X.ev, List.cons_append, List.nil_append, ne_eq, Nat.reduceLT, Int.reduceLE, Int.reduceLT, Int.cast_ofNat_Int, Nat.reducePow, Nat.reduceAnd, Nat.reduceOr, Nat.reduceShiftRight, BEq.rfl, Int.reduceToNat, vpick, vopt, optInt, isInt, vbuild, vbuildOK, vcaps, vcapsOK, elems, elemsOK, List.length_cons, List.length_nil, hget, hset, hdel, hhas, padd, V.ok, V.get, V.set, V.fget, V.fhas, V.fset, noR, Z.v, Z.sz, if_true, if_false, ite_true, ite_false, cond_true, cond_false, reduceCtorEq, forall_const, Nat.reduceAdd, Nat.reduceMul, Nat.reduceSub, Nat.reduceBEq, Nat.reduceEqDiff, dropTo, List.map_cons, List.map_nil, List.filter_cons, List.filter_nil]
  refine ⟨by omega, fun hgt => ?_, fun _ => ?_⟩
  · exfalso
    have hgt : IntKind.i64.wrap (1 * 2 ^ min d IntKind.i64.bits) < l.length := by simpa using hgt
    rw [shl_1 hd] at hgt
    omega
  refine loop_rule (σ := Nat) (fun h => h ≤ d) (fun h => fr 99 [(5, .ptr 0 []), (6, .nili), (7, .ptr 1 []), (8, .sl 2 [] 0 (h + 1) 1), (34, .int .i64 d), (35, .int .i64 h)])
      (fun h => [(0, .ar 32 17 (fun _ => dg Dg.zero)), (1, .ar 32 17 (fun j => dg (nought j))), (2, .ar 1 (h + 1) (lvV l))]) (fun _ => 3) (fun h => d - h) 0 (by omega) ?_ ?_
  · refine Weak.fr [16, 64, 320] [] hx (by simp only [fr_length]) (by decide) ?_ ?_
    · simp only [LT, SimL, ne_eq, Nat.reduceLT, SimA, Sim, SimH, frz, hget, hhas, List.getElem?_cons_zero, List.getElem?_cons_succ, List.getElem?_nil, BEq.rfl, if_true, reduceCtorEq, Option.some.injEq, Nat.reduceEqDiff, if_false, List.contains_cons, List.contains_nil, V.ok, V.get, V.fget, V.fhas, Nat.reduceLeDiff, implies_true, Nat.reduceBEq, Int.cast_ofNat_Int]
    · simp only [LT, SimL, ne_eq, Nat.reduceLT, SimA, Sim, SimH, frz, hget, hhas, List.getElem?_cons_zero, List.getElem?_cons_succ, List.getElem?_nil, BEq.rfl, if_true, reduceCtorEq, Option.some.injEq, Nat.reduceEqDiff, if_false, List.contains_cons, List.contains_nil, V.ok, V.get, V.fget, V.fhas, Nat.reduceLeDiff, implies_true, Nat.reduceBEq, Int.cast_ofNat_Int, dg0]
      intro j hj
      have : j = 0 := by omega
      subst this
      simp only [lvV, row, if_true, LT, SimL, ne_eq, Nat.reduceLT, SimA, Sim, SimH, frz, hget, hhas, List.getElem?_cons_zero, List.getElem?_cons_succ, List.getElem?_nil, BEq.rfl, if_true, reduceCtorEq, Option.some.injEq, Nat.reduceEqDiff, if_false, List.contains_cons, List.contains_nil, V.ok, V.get, V.fget, V.fhas, Nat.reduceLeDiff, implies_true, Nat.reduceBEq, Int.cast_ofNat_Int]
  · intro h hh
    (refine ex_sound 40 _ _ _ _ ?_; simp (maxSteps := 2000000) only [LU, ↓step_conv, ex, Ro, RoD, OpD, epk, epochs, Mv.hx, idsOK, bs, wmask, LK.isW, LK.isA, LK.isP, step, num, X.ev, List.cons_append, List.nil_append, ne_eq, Nat.reduceLT, Int.reduceLE, Int.reduceLT, Int.cast_ofNat_Int, Nat.reducePow, Nat.reduceAnd, Nat.reduceOr, Nat.reduceShiftRight, BEq.rfl, Int.reduceToNat, vpick, vopt, optInt, isInt, vbuild, vbuildOK, vcaps, vcapsOK, elems, elemsOK, List.length_cons, List.length_nil, hget, hset, hdel, hhas, padd, V.ok, V.get, V.set, V.fget, V.fhas, V.fset, noR, Z.v, Z.sz, if_true, if_false, ite_true, ite_false, cond_true, cond_false, reduceCtorEq, forall_const, Nat.reduceAdd, Nat.reduceMul, Nat.reduceSub, Nat.reduceBEq, Nat.reduceEqDiff, dropTo, List.map_cons, List.map_nil, List.filter_cons, List.filter_nil])
    refine ⟨fun hlt => ?_, fun hge => ?_⟩
    · have hlt : (h : Int) < d := by simpa using hlt
      simp only [solid_lvV, size_lvV, agg_lvV, LR, ↓step_conv, ex, Ro, RoD, OpD, epk, epochs, Mv.hx, idsOK, bs, wmask, LK.isW, LK.isA, LK.isP, step, num, X.ev, List.cons_append, List.nil_append, ne_eq, Nat.reduceLT, Int.reduceLE, Int.reduceLT, Int.cast_ofNat_Int, Nat.reducePow, Nat.reduceAnd, Nat.reduceOr, Nat.reduceShiftRight, BEq.rfl, Int.reduceToNat, vpick, vopt, optInt, isInt, vbuild, vbuildOK, vcaps, vcapsOK, elems, elemsOK, List.length_cons, List.length_nil, hget, hset, hdel, hhas, padd, V.ok, V.get, V.set, V.fget, V.fhas, V.fset, noR, Z.v, Z.sz, if_true, if_false, ite_true, ite_false, cond_true, cond_false, reduceCtorEq, forall_const, Nat.reduceAdd, Nat.reduceMul, Nat.reduceSub, Nat.reduceBEq, Nat.reduceEqDiff, dropTo, List.map_cons, List.map_nil, List.filter_cons, List.filter_nil]
      refine ⟨⟨by omega, by omega⟩, by omega, ?_⟩
      refine loop_rule (σ := Nat) (fun q => q ≤ ((lev l h).length + 1) / 2) (fun q => fr 99 [(5, .ptr 0 []), (6, .nili), (7, .ptr 1 []), (8, .sl 2 [] 0 (h + 1) 1), (9, .int .i64 h), (10, if q = 0 then .nils else .sl 3 [] 0 q 32), (11, lvV l h), (12, .int .i64 (2 * q : Nat)), (34, .int .i64 d), (35, .int .i64 h)])
        (fun q => (0, .ar 32 17 (fun _ => dg Dg.zero)) :: (1, .ar 32 17 (fun j => dg (nought j))) :: (2, .ar 1 (h + 1) (lvV l)) :: (if q = 0 then [] else [(3, .ar 32 q (fun j => dg (upN (nought h) (lev l h) j)))])) (fun _ => 4) (fun q => (lev l h).length + 1 - q) 0 (by omega) ?_ ?_
      · refine Weak.fr [0, 1, 2] [] hx (by simp only [fr_length]) (by decide) ?_ ?_
        · simp only [LT, SimL, ne_eq, Nat.reduceLT, SimA, Sim, SimH, frz, hget, hhas, List.getElem?_cons_zero, List.getElem?_cons_succ, List.getElem?_nil, BEq.rfl, if_true, reduceCtorEq, Option.some.injEq, Nat.reduceEqDiff, if_false, List.contains_cons, List.contains_nil, V.ok, V.get, V.fget, V.fhas, Nat.reduceLeDiff, implies_true, Nat.reduceBEq, Int.cast_ofNat_Int]
          exact ⟨SimV_self_lvV _ _ _ _ _, rfl⟩
        · simp only [LT, SimL, ne_eq, Nat.reduceLT, SimA, Sim, SimH, frz, hget, hhas, List.getElem?_cons_zero, List.getElem?_cons_succ, List.getElem?_nil, BEq.rfl, if_true, reduceCtorEq, Option.some.injEq, Nat.reduceEqDiff, if_false, List.contains_cons, List.contains_nil, V.ok, V.get, V.fget, V.fhas, Nat.reduceLeDiff, implies_true, Nat.reduceBEq, Int.cast_ofNat_Int]
          exact fun _ _ => Sim_lvV _ _ _ _ _
      · intro q hq
        rcases lv_cases l h with hv | ⟨hv, hL⟩
        · simp only [hv]
          (refine ex_sound 14 _ _ _ _ ?_; simp (maxSteps := 2000000) only [LU, ↓step_conv, ex, Ro, RoD, OpD, epk, epochs, Mv.hx, idsOK, bs, wmask, LK.isW, LK.isA, LK.isP, step, num, X.ev, List.cons_append, List.nil_append, ne_eq, Nat.reduceLT, Int.reduceLE, Int.reduceLT, Int.cast_ofNat_Int, Nat.reducePow, Nat.reduceAnd, Nat.reduceOr, Nat.reduceShiftRight, BEq.rfl, Int.reduceToNat, vpick, vopt, optInt, isInt, vbuild, vbuildOK, vcaps, vcapsOK, elems, elemsOK, List.length_cons, List.length_nil, hget, hset, hdel, hhas, padd, V.ok, V.get, V.set, V.fget, V.fhas, V.fset, noR, Z.v, Z.sz, if_true, if_false, ite_true, ite_false, cond_true, cond_false, reduceCtorEq, forall_const, Nat.reduceAdd, Nat.reduceMul, Nat.reduceSub, Nat.reduceBEq, Nat.reduceEqDiff, dropTo, List.map_cons, List.map_nil, List.filter_cons, List.filter_nil])
          have hn : (lev l h).length ≤ 65536 := Nat.le_trans (lev_len l h) (Nat.le_trans hl (Nat.pow_le_pow_right (n := 2) (by omega) hd))
          refine ⟨fun hlt2 => ?_, fun hge2 => ?_⟩
          · have hlt2 : ((2 * q : Nat) : Int) < (lev l h).length := of_decide_eq_true hlt2
            have w1 : IntKind.i64.wrap (((2 * q : Nat) : Int) + 1) = ((2 * q + 1 : Nat) : Int) := by rw [wrap_i64 (by omega)]; omega
            have w2 : IntKind.i64.wrap (((2 * q : Nat) : Int) + 2) = ((2 * (q + 1) : Nat) : Int) := by rw [wrap_i64 (by omega)]; omega
            have w3 : IntKind.i64.wrap ((h : Int) + 1) = ((h + 1 : Nat) : Int) := by rw [wrap_i64 (by omega)]; omega
            simp only [w1, Int.toNat_natCast]
            refine join2 (fr 99 [(5, .ptr 0 []), (6, .nili), (7, .ptr 1 []), (8, .sl 2 [] 0 (h + 1) 1), (9, .int .i64 h), (10, if q = 0 then .nils else .sl 3 [] 0 q 32), (11, .lst 32 (lev l h).length (dgs (lev l h))), (12, .int .i64 (2 * q : Nat)), (13, .ptr 4 []), (34, .int .i64 d), (35, .int .i64 h)])
              ((4, dg ((lev l h).getD (2 * q + 1) (nought h))) :: (0, .ar 32 17 (fun _ => dg Dg.zero)) :: (1, .ar 32 17 (fun j => dg (nought j))) :: (2, .ar 1 (h + 1) (lvV l)) :: (if q = 0 then [] else [(3, .ar 32 q (fun j => dg (upN (nought h) (lev l h) j)))])) 5 ?_
              (fun key => ⟨⟨by omega, by omega⟩, by omega, fun ho => ⟨⟨by omega, of_decide_eq_true ho⟩, SemK.weak _ _ _ ?_ key⟩, fun ho => SemK.weak _ _ _ ?_ key⟩)
            · exact levB ok hx hd hlt hn hlt2 (fun A H N hw => ⟨q + 1, by omega, by omega, hw⟩)
            · have ho := of_decide_eq_true ho
              refine Weak.fr [0, 1, 2, 3, 116] [] hx (by simp only [fr_length]) (by decide) ?_ ?_
              · simp only [LT, SimL, ne_eq, Nat.reduceLT, SimA, Sim, SimH, frz, hget, hhas, List.getElem?_cons_zero, List.getElem?_cons_succ, List.getElem?_nil, BEq.rfl, if_true, reduceCtorEq, Option.some.injEq, Nat.reduceEqDiff, if_false, List.contains_cons, List.contains_nil, V.ok, V.get, V.fget, V.fhas, Nat.reduceLeDiff, implies_true, Nat.reduceBEq, Int.cast_ofNat_Int]
                by_cases hq0 : q = 0
                · simp only [if_pos hq0, LT, SimL, ne_eq, Nat.reduceLT, SimA, Sim, SimH, frz, hget, hhas, List.getElem?_cons_zero, List.getElem?_cons_succ, List.getElem?_nil, BEq.rfl, if_true, reduceCtorEq, Option.some.injEq, Nat.reduceEqDiff, if_false, List.contains_cons, List.contains_nil, V.ok, V.get, V.fget, V.fhas, Nat.reduceLeDiff, implies_true, Nat.reduceBEq, Int.cast_ofNat_Int]
                · simp only [if_neg hq0, LT, SimL, ne_eq, Nat.reduceLT, SimA, Sim, SimH, frz, hget, hhas, List.getElem?_cons_zero, List.getElem?_cons_succ, List.getElem?_nil, BEq.rfl, if_true, reduceCtorEq, Option.some.injEq, Nat.reduceEqDiff, if_false, List.contains_cons, List.contains_nil, V.ok, V.get, V.fget, V.fhas, Nat.reduceLeDiff, implies_true, Nat.reduceBEq, Int.cast_ofNat_Int]
              · simp only [LT, SimL, ne_eq, Nat.reduceLT, SimA, Sim, SimH, frz, hget, hhas, List.getElem?_cons_zero, List.getElem?_cons_succ, List.getElem?_nil, BEq.rfl, if_true, reduceCtorEq, Option.some.injEq, Nat.reduceEqDiff, if_false, List.contains_cons, List.contains_nil, V.ok, V.get, V.fget, V.fhas, Nat.reduceLeDiff, implies_true, Nat.reduceBEq, Int.cast_ofNat_Int]
                refine ⟨getD_in (by omega) _ _, fun _ _ => Sim_lvV _ _ _ _ _, ?_⟩
                by_cases hq0 : q = 0
                · simp only [if_pos hq0, LT, SimL, ne_eq, Nat.reduceLT, SimA, Sim, SimH, frz, hget, hhas, List.getElem?_cons_zero, List.getElem?_cons_succ, List.getElem?_nil, BEq.rfl, if_true, reduceCtorEq, Option.some.injEq, Nat.reduceEqDiff, if_false, List.contains_cons, List.contains_nil, V.ok, V.get, V.fget, V.fhas, Nat.reduceLeDiff, implies_true, Nat.reduceBEq, Int.cast_ofNat_Int]
                · simp only [if_neg hq0, LT, SimL, ne_eq, Nat.reduceLT, SimA, Sim, SimH, frz, hget, hhas, List.getElem?_cons_zero, List.getElem?_cons_succ, List.getElem?_nil, BEq.rfl, if_true, reduceCtorEq, Option.some.injEq, Nat.reduceEqDiff, if_false, List.contains_cons, List.contains_nil, V.ok, V.get, V.fget, V.fhas, Nat.reduceLeDiff, implies_true, Nat.reduceBEq, Int.cast_ofNat_Int]
            · have ho := of_decide_eq_false ho
              refine Weak.fr [0, 1, 2, 3, 116] [] hx (by simp only [fr_length]) (by decide) ?_ ?_
              · simp only [LT, SimL, ne_eq, Nat.reduceLT, SimA, Sim, SimH, frz, hget, hhas, List.getElem?_cons_zero, List.getElem?_cons_succ, List.getElem?_nil, BEq.rfl, if_true, reduceCtorEq, Option.some.injEq, Nat.reduceEqDiff, if_false, List.contains_cons, List.contains_nil, V.ok, V.get, V.fget, V.fhas, Nat.reduceLeDiff, implies_true, Nat.reduceBEq, Int.cast_ofNat_Int]
                by_cases hq0 : q = 0
                · simp only [if_pos hq0, LT, SimL, ne_eq, Nat.reduceLT, SimA, Sim, SimH, frz, hget, hhas, List.getElem?_cons_zero, List.getElem?_cons_succ, List.getElem?_nil, BEq.rfl, if_true, reduceCtorEq, Option.some.injEq, Nat.reduceEqDiff, if_false, List.contains_cons, List.contains_nil, V.ok, V.get, V.fget, V.fhas, Nat.reduceLeDiff, implies_true, Nat.reduceBEq, Int.cast_ofNat_Int]
                · simp only [if_neg hq0, LT, SimL, ne_eq, Nat.reduceLT, SimA, Sim, SimH, frz, hget, hhas, List.getElem?_cons_zero, List.getElem?_cons_succ, List.getElem?_nil, BEq.rfl, if_true, reduceCtorEq, Option.some.injEq, Nat.reduceEqDiff, if_false, List.contains_cons, List.contains_nil, V.ok, V.get, V.fget, V.fhas, Nat.reduceLeDiff, implies_true, Nat.reduceBEq, Int.cast_ofNat_Int]
              · simp only [LT, SimL, ne_eq, Nat.reduceLT, SimA, Sim, SimH, frz, hget, hhas, List.getElem?_cons_zero, List.getElem?_cons_succ, List.getElem?_nil, BEq.rfl, if_true, reduceCtorEq, Option.some.injEq, Nat.reduceEqDiff, if_false, List.contains_cons, List.contains_nil, V.ok, V.get, V.fget, V.fhas, Nat.reduceLeDiff, implies_true, Nat.reduceBEq, Int.cast_ofNat_Int]
                refine ⟨(getD_out (by omega) _).symm, fun _ _ => Sim_lvV _ _ _ _ _, ?_⟩
                by_cases hq0 : q = 0
                · simp only [if_pos hq0, LT, SimL, ne_eq, Nat.reduceLT, SimA, Sim, SimH, frz, hget, hhas, List.getElem?_cons_zero, List.getElem?_cons_succ, List.getElem?_nil, BEq.rfl, if_true, reduceCtorEq, Option.some.injEq, Nat.reduceEqDiff, if_false, List.contains_cons, List.contains_nil, V.ok, V.get, V.fget, V.fhas, Nat.reduceLeDiff, implies_true, Nat.reduceBEq, Int.cast_ofNat_Int]
                · simp only [if_neg hq0, LT, SimL, ne_eq, Nat.reduceLT, SimA, Sim, SimH, frz, hget, hhas, List.getElem?_cons_zero, List.getElem?_cons_succ, List.getElem?_nil, BEq.rfl, if_true, reduceCtorEq, Option.some.injEq, Nat.reduceEqDiff, if_false, List.contains_cons, List.contains_nil, V.ok, V.get, V.fget, V.fhas, Nat.reduceLeDiff, implies_true, Nat.reduceBEq, Int.cast_ofNat_Int]
          · have hge2 : ¬ ((2 * q : Nat) : Int) < (lev l h).length := of_decide_eq_false hge2
            have hqe : q = ((lev l h).length + 1) / 2 := by omega
            have w3 : IntKind.i64.wrap ((h : Int) + 1) = ((h + 1 : Nat) : Int) := by rw [wrap_i64 (by omega)]; omega
            by_cases hq0 : q = 0
            · simp only [if_pos hq0, LU, ↓step_conv, ex, Ro, RoD, OpD, epk, epochs, Mv.hx, idsOK, bs, wmask, LK.isW, LK.isA, LK.isP, step, num, X.ev, List.cons_append, List.nil_append, ne_eq, Nat.reduceLT, Int.reduceLE, Int.reduceLT, Int.cast_ofNat_Int, Nat.reducePow, Nat.reduceAnd, Nat.reduceOr, Nat.reduceShiftRight, BEq.rfl, Int.reduceToNat, vpick, vopt, optInt, isInt, vbuild, vbuildOK, vcaps, vcapsOK, elems, elemsOK, List.length_cons, List.length_nil, hget, hset, hdel, hhas, padd, V.ok, V.get, V.set, V.fget, V.fhas, V.fset, noR, Z.v, Z.sz, if_true, if_false, ite_true, ite_false, cond_true, cond_false, reduceCtorEq, forall_const, Nat.reduceAdd, Nat.reduceMul, Nat.reduceSub, Nat.reduceBEq, Nat.reduceEqDiff, dropTo, List.map_cons, List.map_nil, List.filter_cons, List.filter_nil]
              refine ⟨by omega, h + 1, by omega, by omega, ?_⟩
              refine Weak.fr [0, 1, 116] [] hx (by simp only [fr_length]) (by decide) ?_ ?_
              · simp only [LT, SimL, ne_eq, Nat.reduceLT, SimA, Sim, SimH, frz, hget, hhas, List.getElem?_cons_zero, List.getElem?_cons_succ, List.getElem?_nil, BEq.rfl, if_true, reduceCtorEq, Option.some.injEq, Nat.reduceEqDiff, if_false, List.contains_cons, List.contains_nil, V.ok, V.get, V.fget, V.fhas, Nat.reduceLeDiff, implies_true, Nat.reduceBEq, Int.cast_ofNat_Int, w3]
              · simp only [LT, SimL, ne_eq, Nat.reduceLT, SimA, Sim, SimH, frz, hget, hhas, List.getElem?_cons_zero, List.getElem?_cons_succ, List.getElem?_nil, BEq.rfl, if_true, reduceCtorEq, Option.some.injEq, Nat.reduceEqDiff, if_false, List.contains_cons, List.contains_nil, V.ok, V.get, V.fget, V.fhas, Nat.reduceLeDiff, implies_true, Nat.reduceBEq, Int.cast_ofNat_Int]
                have hup : lev l (h + 1) = [] := List.length_eq_zero_iff.mp (by rw [lev, up_len]; omega)
                intro i hi
                by_cases h2 : i < h + 1
                · rw [if_pos h2]; exact Sim_lvV _ _ _ _ _
                · have : i = h + 1 := by omega
                  subst this
                  simp only [lvV, hup, if_neg (Nat.add_one_ne_zero h), if_true, Nat.lt_irrefl, if_false, Sim, ite_self]
            · simp only [if_neg hq0, LU, ↓step_conv, ex, Ro, RoD, OpD, epk, epochs, Mv.hx, idsOK, bs, wmask, LK.isW, LK.isA, LK.isP, step, num, X.ev, List.cons_append, List.nil_append, ne_eq, Nat.reduceLT, Int.reduceLE, Int.reduceLT, Int.cast_ofNat_Int, Nat.reducePow, Nat.reduceAnd, Nat.reduceOr, Nat.reduceShiftRight, BEq.rfl, Int.reduceToNat, vpick, vopt, optInt, isInt, vbuild, vbuildOK, vcaps, vcapsOK, elems, elemsOK, List.length_cons, List.length_nil, hget, hset, hdel, hhas, padd, V.ok, V.get, V.set, V.fget, V.fhas, V.fset, noR, Z.v, Z.sz, if_true, if_false, ite_true, ite_false, cond_true, cond_false, reduceCtorEq, forall_const, Nat.reduceAdd, Nat.reduceMul, Nat.reduceSub, Nat.reduceBEq, Nat.reduceEqDiff, dropTo, List.map_cons, List.map_nil, List.filter_cons, List.filter_nil]
              refine ⟨by omega, h + 1, by omega, by omega, ?_⟩
              refine Weak.fr [0, 1, 116] [3] hx (by simp only [fr_length]) (by decide) ?_ ?_
              · simp only [LT, SimL, ne_eq, Nat.reduceLT, SimA, Sim, SimH, frz, hget, hhas, List.getElem?_cons_zero, List.getElem?_cons_succ, List.getElem?_nil, BEq.rfl, if_true, reduceCtorEq, Option.some.injEq, Nat.reduceEqDiff, if_false, List.contains_cons, List.contains_nil, V.ok, V.get, V.fget, V.fhas, Nat.reduceLeDiff, implies_true, Nat.reduceBEq, Int.cast_ofNat_Int, w3]
              · simp only [LT, SimL, ne_eq, Nat.reduceLT, SimA, Sim, SimH, frz, hget, hhas, List.getElem?_cons_zero, List.getElem?_cons_succ, List.getElem?_nil, BEq.rfl, if_true, reduceCtorEq, Option.some.injEq, Nat.reduceEqDiff, if_false, List.contains_cons, List.contains_nil, V.ok, V.get, V.fget, V.fhas, Nat.reduceLeDiff, implies_true, Nat.reduceBEq, Int.cast_ofNat_Int]
                have hlen : (lev l (h + 1)).length = q := by rw [lev, up_len]; omega
                have hup : lev l (h + 1) ≠ [] := fun h => by rw [h] at hlen; exact hq0 hlen.symm
                intro i hi
                by_cases h2 : i < h + 1
                · rw [if_pos h2]; exact Sim_lvV _ _ _ _ _
                · have : i = h + 1 := by omega
                  subst this
                  simp only [lvV, if_neg hup, if_neg (Nat.add_one_ne_zero h), Nat.lt_irrefl, if_false, Nat.sub_self, if_true, row, hlen, LT, SimL, ne_eq, Nat.reduceLT, SimA, Sim, SimH, frz, hget, hhas, List.getElem?_cons_zero, List.getElem?_cons_succ, List.getElem?_nil, BEq.rfl, if_true, reduceCtorEq, Option.some.injEq, Nat.reduceEqDiff, if_false, List.contains_cons, List.contains_nil, V.ok, V.get, V.fget, V.fhas, Nat.reduceLeDiff, implies_true, Nat.reduceBEq, Int.cast_ofNat_Int]
                  intro j hj
                  rw [lev, up_at _ _ _ _ (by omega)]
        · have hq0 : q = 0 := by rw [hL] at hq; simpa using hq
          subst hq0
          have dz : decide ((0 : Int) < 0) = false := rfl
          have w3 : IntKind.i64.wrap ((h : Int) + 1) = ((h + 1 : Nat) : Int) := by rw [wrap_i64 (by omega)]; omega
          simp only [hv, if_true]
          (refine ex_sound 40 _ _ _ _ ?_; simp (maxSteps := 2000000) only [dz, LU, ↓step_conv, ex, Ro, RoD, OpD, epk, epochs, Mv.hx, idsOK, bs, wmask, LK.isW, LK.isA, LK.isP, step, num, X.ev, List.cons_append, List.nil_append, ne_eq, Nat.reduceLT, Int.reduceLE, Int.reduceLT, Int.cast_ofNat_Int, Nat.reducePow, Nat.reduceAnd, Nat.reduceOr, Nat.reduceShiftRight, BEq.rfl, Int.reduceToNat, vpick, vopt, optInt, isInt, vbuild, vbuildOK, vcaps, vcapsOK, elems, elemsOK, List.length_cons, List.length_nil, hget, hset, hdel, hhas, padd, V.ok, V.get, V.set, V.fget, V.fhas, V.fset, noR, Z.v, Z.sz, if_true, if_false, ite_true, ite_false, cond_true, cond_false, reduceCtorEq, forall_const, Nat.reduceAdd, Nat.reduceMul, Nat.reduceSub, Nat.reduceBEq, Nat.reduceEqDiff, dropTo, List.map_cons, List.map_nil, List.filter_cons, List.filter_nil])
          refine ⟨by omega, h + 1, by omega, by omega, ?_⟩
          refine Weak.fr [0, 1, 116] [] hx (by simp only [fr_length]) (by decide) ?_ ?_
          · simp only [LT, SimL, ne_eq, Nat.reduceLT, SimA, Sim, SimH, frz, hget, hhas, List.getElem?_cons_zero, List.getElem?_cons_succ, List.getElem?_nil, BEq.rfl, if_true, reduceCtorEq, Option.some.injEq, Nat.reduceEqDiff, if_false, List.contains_cons, List.contains_nil, V.ok, V.get, V.fget, V.fhas, Nat.reduceLeDiff, implies_true, Nat.reduceBEq, Int.cast_ofNat_Int, w3]
          · simp only [LT, SimL, ne_eq, Nat.reduceLT, SimA, Sim, SimH, frz, hget, hhas, List.getElem?_cons_zero, List.getElem?_cons_succ, List.getElem?_nil, BEq.rfl, if_true, reduceCtorEq, Option.some.injEq, Nat.reduceEqDiff, if_false, List.contains_cons, List.contains_nil, V.ok, V.get, V.fget, V.fhas, Nat.reduceLeDiff, implies_true, Nat.reduceBEq, Int.cast_ofNat_Int]
            have hup : lev l (h + 1) = [] := List.length_eq_zero_iff.mp (by rw [lev, up_len, hL]; rfl)
            intro i hi
            by_cases h2 : i < h + 1
            · rw [if_pos h2]; exact Sim_lvV _ _ _ _ _
            · have : i = h + 1 := by omega
              subst this
              simp only [lvV, hup, if_neg (Nat.add_one_ne_zero h), if_true, Nat.lt_irrefl, if_false, Sim, ite_self]
    · have hge : ¬ (h : Int) < d := by simpa using hge
      have hhd : h = d := by omega
      subst hhd
      refine RetS.mk hx [2] [] (tup3 (.sl 0 [] 0 (h + 1) 1) (.ar 32 17 (fun j => dg (nought j))) .nili) [(0, .ar 1 (h + 1) (lvV l))] 1 (by decide) ?_ ?_ ?_ ⟨rfl, rfl, rfl⟩
      · simp only [res, resPs, resP, tupP, resV, LR, ↓step_conv, ex, Ro, RoD, OpD, epk, epochs, Mv.hx, idsOK, bs, wmask, LK.isW, LK.isA, LK.isP, step, num, X.ev, List.cons_append, List.nil_append, ne_eq, Nat.reduceLT, Int.reduceLE, Int.reduceLT, Int.cast_ofNat_Int, Nat.reducePow, Nat.reduceAnd, Nat.reduceOr, Nat.reduceShiftRight, BEq.rfl, Int.reduceToNat, vpick, vopt, optInt, isInt, vbuild, vbuildOK, vcaps, vcapsOK, elems, elemsOK, List.length_cons, List.length_nil, hget, hset, hdel, hhas, padd, V.ok, V.get, V.set, V.fget, V.fhas, V.fset, noR, Z.v, Z.sz, if_true, if_false, ite_true, ite_false, cond_true, cond_false, reduceCtorEq, forall_const, Nat.reduceAdd, Nat.reduceMul, Nat.reduceSub, Nat.reduceBEq, Nat.reduceEqDiff, dropTo, List.map_cons, List.map_nil, List.filter_cons, List.filter_nil]
      · simp only [res, resV, tupV, tup3, LR, ↓step_conv, ex, Ro, RoD, OpD, epk, epochs, Mv.hx, idsOK, bs, wmask, LK.isW, LK.isA, LK.isP, step, num, X.ev, List.cons_append, List.nil_append, ne_eq, Nat.reduceLT, Int.reduceLE, Int.reduceLT, Int.cast_ofNat_Int, Nat.reducePow, Nat.reduceAnd, Nat.reduceOr, Nat.reduceShiftRight, BEq.rfl, Int.reduceToNat, vpick, vopt, optInt, isInt, vbuild, vbuildOK, vcaps, vcapsOK, elems, elemsOK, List.length_cons, List.length_nil, hget, hset, hdel, hhas, padd, V.ok, V.get, V.set, V.fget, V.fhas, V.fset, noR, Z.v, Z.sz, if_true, if_false, ite_true, ite_false, cond_true, cond_false, reduceCtorEq, forall_const, Nat.reduceAdd, Nat.reduceMul, Nat.reduceSub, Nat.reduceBEq, Nat.reduceEqDiff, dropTo, List.map_cons, List.map_nil, List.filter_cons, List.filter_nil, LT, SimL, ne_eq, Nat.reduceLT, SimA, Sim, SimH, frz, hget, hhas, List.getElem?_cons_zero, List.getElem?_cons_succ, List.getElem?_nil, BEq.rfl, if_true, reduceCtorEq, Option.some.injEq, Nat.reduceEqDiff, if_false, List.contains_cons, List.contains_nil, V.ok, V.get, V.fget, V.fhas, Nat.reduceLeDiff, implies_true, Nat.reduceBEq, Int.cast_ofNat_Int]
      · simp only [LT, SimL, ne_eq, Nat.reduceLT, SimA, Sim, SimH, frz, hget, hhas, List.getElem?_cons_zero, List.getElem?_cons_succ, List.getElem?_nil, BEq.rfl, if_true, reduceCtorEq, Option.some.injEq, Nat.reduceEqDiff, if_false, List.contains_cons, List.contains_nil, V.ok, V.get, V.fget, V.fhas, Nat.reduceLeDiff, implies_true, Nat.reduceBEq, Int.cast_ofNat_Int]
        exact fun _ _ => Sim_lvV _ _ _ _ _
end Mv
