/- octets.Put -/
import Derived.Test.YtfoaeafobdamcaaDoorCa
import Derived.Test.YtfoaeafobdamcaaDoorT
set_option linter.unusedSimpArgs false
set_option linter.unusedVariables false
namespace Mv
open Go
set_option maxRecDepth 10000
set_option linter.unusedSimpArgs false

/-- The byte i of a word, the highest first. -/
def byt (v : Int) (i : Nat) : Int := (v / 2 ^ (56 - 8 * i)) % 256

theorem runs_Put {M : Seat} (hc : chkF M 312 f312 = true) (L o n : Nat) (g : Nat → Int) (v : Int) (hv : 0 ≤ v) (hn : 8 ≤ n) (hL : o + n ≤ L) :
    Runs M 312 [.sl 0 [] o n 1, .int .u64 v] [(0, .ar 1 L fun j => .int .u8 (g j))] 1 (fun r H' k' => r = .tup .fnil ∧ H' = [(0, .ar 1 L (fun j => .int .u8 (if o ≤ j ∧ j < o + 8 then byt v (j - o) else g j)))] ∧ k' = 1) := by
  refine runs_fr hc rfl fun x hx => ?_
  refine ex_sound 30 _ _ _ _ ?_
  simp only [f312, c312, ↓step_conv, vconv_int, vconv_B, vconv_W, vconv_Wi, vconv_Bi, vari_shl, vari_shr, vari_eql_W, vari_neq_W, vari_eql_Wc, vari_geq_Wc, vari_rem_Wc, xor_B, ex, Ro, RoD, OpD, epk, epochs, Mv.hx, idsOK, bs, wmask, LK.isW, LK.isA, LK.isP, step, put_fr, put_none, fr_same, fr_ne, fr_nil, fr_length, num, X.ev, List.cons_append, List.nil_append, ne_eq, not_false_eq_true, Nat.reduceLT, v_add, v_sub, v_mul, v_quo, v_rem, v_shl, v_shr, v_lss, v_leq, v_gtr, v_geq, v_eql, v_neq, v_and, v_or, v_xor, v_not, vari_xor, vari_and, vari_or, vun_xor, Int.reduceLE, Int.reduceLT, Int.cast_ofNat_Int, Int.le_refl, ite_W, ite_B, Int.toNat_natCast, true_or, or_true, Nat.add_zero, Nat.reducePow, Nat.reduceAnd, Nat.reduceOr, Nat.reduceShiftRight, GLv1, GLv2, GLv3, Nat.zero_or, Nat.or_zero, Nat.and_zero, Nat.zero_and, Nat.zero_shiftRight, BEq.rfl, Int.toNat_zero, Int.reduceToNat, ws_at, bys_at, solid_W, size_W, agg_W, solid_B, size_B, agg_B, vpick, vopt, optInt, isInt, vbuild, vbuildOK, vcaps, vcapsOK, elems, elemsOK, List.length_cons, List.length_nil, hget, hset, hdel, hhas, padd, V.ok, V.get, V.set, V.fget, V.fhas, V.fset, solid_int, solid_bool, solid_str, solid_nilp, solid_ptr, solid_imm, solid_nils, solid_sl, solid_lst, solid_nilm, solid_map, solid_nilf, solid_fn, solid_nili, solid_ifc, solid_st, solid_ar, size_int, size_bool, size_str, size_nilp, size_ptr, size_imm, size_nils, size_sl, size_lst, size_nilm, size_map, size_nilf, size_fn, size_nili, size_ifc, size_st, size_ar, agg_int, agg_bool, agg_str, agg_nilp, agg_ptr, agg_imm, agg_nils, agg_sl, agg_lst, agg_nilm, agg_map, agg_nilf, agg_fn, agg_nili, agg_ifc, agg_st, agg_ar, noR, Z.v, Z.sz, if_true, if_false, ite_true, ite_false, BEq.rfl, Bool.true_or, Bool.or_true, Bool.false_or, Bool.or_false, Bool.and_true, Bool.true_and, Bool.false_and, Bool.and_false, true_and, and_true, cond_true, cond_false, reduceCtorEq, Bool.false_eq_true, Bool.true_eq_false, false_implies, true_implies, forall_const, decide_true, decide_false, ite_int, ite_bool, Bool.not_true, Bool.not_false, Nat.reduceAdd, Nat.reduceMul, Nat.reduceSub, Nat.reduceBEq, Nat.reduceEqDiff, dropTo, List.map_cons, List.map_nil, List.filter_cons, List.filter_nil]
  refine loop_rule (σ := Nat) (fun i => i ≤ 8) (fun i => fr 18 [(0, .sl 0 [] o n 1), (1, .int .u64 v), (5, .int .i64 i)])
    (fun i => [(0, .ar 1 L (fun j => .int .u8 (if o ≤ j ∧ j < o + i then byt v (j - o) else g j)))]) (fun _ => 1) (fun i => 8 - i) 0 (by omega) ?_ ?_
  · refine Weak.fr [0] [] hx (by simp only [fr_length]) (by decide) ?_ ?_
    · simp only [SimV_W, SimV_B, Sim_W, Sim_B, ws_at, bys_at, SimL, fr_same, fr_ne, fr_nil, ne_eq, not_false_eq_true, Nat.reduceLT, SimA, SimV_junk, SimV_int, SimV_bool, SimV_str, SimV_nilp, SimV_ptr, SimV_imm, SimV_nils, SimV_sl, SimV_lst, SimV_nilm, SimV_map, SimV_nilf, SimV_fn, SimV_nili, SimV_ifc, SimV_st, SimV_ar, SimV_tup, Sim, SimH, frz, hget, hhas, List.getElem?_cons_zero, List.getElem?_cons_succ, List.getElem?_nil, true_and, and_true, and_self, V.int.injEq, V.sl.injEq, V.ptr.injEq, V.bool.injEq, BEq.rfl, Bool.true_or, if_true, reduceCtorEq, Option.some.injEq, Nat.reduceEqDiff, if_false]
      rfl
    · simp only [SimV_W, SimV_B, Sim_W, Sim_B, ws_at, bys_at, SimL, fr_same, fr_ne, fr_nil, ne_eq, not_false_eq_true, Nat.reduceLT, SimA, SimV_junk, SimV_int, SimV_bool, SimV_str, SimV_nilp, SimV_ptr, SimV_imm, SimV_nils, SimV_sl, SimV_lst, SimV_nilm, SimV_map, SimV_nilf, SimV_fn, SimV_nili, SimV_ifc, SimV_st, SimV_ar, SimV_tup, Sim, SimH, frz, hget, hhas, List.getElem?_cons_zero, List.getElem?_cons_succ, List.getElem?_nil, true_and, and_true, and_self, V.int.injEq, V.sl.injEq, V.ptr.injEq, V.bool.injEq, BEq.rfl, Bool.true_or, if_true, reduceCtorEq, Option.some.injEq, Nat.reduceEqDiff, if_false]
      intro i hi
      rw [if_neg (by omega)]
  · intro i hi
    refine ex_sound 30 _ _ _ _ ?_
    simp only [↓step_conv, vconv_int, vconv_B, vconv_W, vconv_Wi, vconv_Bi, vari_shl, vari_shr, vari_eql_W, vari_neq_W, vari_eql_Wc, vari_geq_Wc, vari_rem_Wc, xor_B, ex, Ro, RoD, OpD, epk, epochs, Mv.hx, idsOK, bs, wmask, LK.isW, LK.isA, LK.isP, step, put_fr, put_none, fr_same, fr_ne, fr_nil, fr_length, num, X.ev, List.cons_append, List.nil_append, ne_eq, not_false_eq_true, Nat.reduceLT, v_add, v_sub, v_mul, v_quo, v_rem, v_shl, v_shr, v_lss, v_leq, v_gtr, v_geq, v_eql, v_neq, v_and, v_or, v_xor, v_not, vari_xor, vari_and, vari_or, vun_xor, Int.reduceLE, Int.reduceLT, Int.cast_ofNat_Int, Int.le_refl, ite_W, ite_B, Int.toNat_natCast, true_or, or_true, Nat.add_zero, Nat.reducePow, Nat.reduceAnd, Nat.reduceOr, Nat.reduceShiftRight, GLv1, GLv2, GLv3, Nat.zero_or, Nat.or_zero, Nat.and_zero, Nat.zero_and, Nat.zero_shiftRight, BEq.rfl, Int.toNat_zero, Int.reduceToNat, ws_at, bys_at, solid_W, size_W, agg_W, solid_B, size_B, agg_B, vpick, vopt, optInt, isInt, vbuild, vbuildOK, vcaps, vcapsOK, elems, elemsOK, List.length_cons, List.length_nil, hget, hset, hdel, hhas, padd, V.ok, V.get, V.set, V.fget, V.fhas, V.fset, solid_int, solid_bool, solid_str, solid_nilp, solid_ptr, solid_imm, solid_nils, solid_sl, solid_lst, solid_nilm, solid_map, solid_nilf, solid_fn, solid_nili, solid_ifc, solid_st, solid_ar, size_int, size_bool, size_str, size_nilp, size_ptr, size_imm, size_nils, size_sl, size_lst, size_nilm, size_map, size_nilf, size_fn, size_nili, size_ifc, size_st, size_ar, agg_int, agg_bool, agg_str, agg_nilp, agg_ptr, agg_imm, agg_nils, agg_sl, agg_lst, agg_nilm, agg_map, agg_nilf, agg_fn, agg_nili, agg_ifc, agg_st, agg_ar, noR, Z.v, Z.sz, if_true, if_false, ite_true, ite_false, BEq.rfl, Bool.true_or, Bool.or_true, Bool.false_or, Bool.or_false, Bool.and_true, Bool.true_and, Bool.false_and, Bool.and_false, true_and, and_true, cond_true, cond_false, reduceCtorEq, Bool.false_eq_true, Bool.true_eq_false, false_implies, true_implies, forall_const, decide_true, decide_false, ite_int, ite_bool, Bool.not_true, Bool.not_false, Nat.reduceAdd, Nat.reduceMul, Nat.reduceSub, Nat.reduceBEq, Nat.reduceEqDiff, dropTo, List.map_cons, List.map_nil, List.filter_cons, List.filter_nil]
    refine ⟨fun hlt => ?_, fun hge => ?_⟩
    · have hlt : (i : Int) < 8 := by simpa using hlt
      have w1 : IntKind.i64.wrap (8 * ↑i) = 8 * i := wrap_i64 (by omega)
      have w2 : IntKind.i64.wrap (56 - 8 * ↑i) = 56 - 8 * i := wrap_i64 (by omega)
      have w3 : IntKind.i64.wrap ((i : Int) + 1) = i + 1 := wrap_i64 (by omega)
      simp only [w1, w2, w3]
      refine ⟨by omega, ⟨by omega, by omega⟩, by omega, i + 1, by omega, by omega, Weak.fr [0] [] hx (by simp only [fr_length]) (by decide) ?_ ?_⟩
      · simp only [SimV_W, SimV_B, Sim_W, Sim_B, ws_at, bys_at, SimL, fr_same, fr_ne, fr_nil, ne_eq, not_false_eq_true, Nat.reduceLT, SimA, SimV_junk, SimV_int, SimV_bool, SimV_str, SimV_nilp, SimV_ptr, SimV_imm, SimV_nils, SimV_sl, SimV_lst, SimV_nilm, SimV_map, SimV_nilf, SimV_fn, SimV_nili, SimV_ifc, SimV_st, SimV_ar, SimV_tup, Sim, SimH, frz, hget, hhas, List.getElem?_cons_zero, List.getElem?_cons_succ, List.getElem?_nil, true_and, and_true, and_self, V.int.injEq, V.sl.injEq, V.ptr.injEq, V.bool.injEq, BEq.rfl, Bool.true_or, if_true, reduceCtorEq, Option.some.injEq, Nat.reduceEqDiff, if_false]
        omega
      · simp only [SimV_W, SimV_B, Sim_W, Sim_B, ws_at, bys_at, SimL, fr_same, fr_ne, fr_nil, ne_eq, not_false_eq_true, Nat.reduceLT, SimA, SimV_junk, SimV_int, SimV_bool, SimV_str, SimV_nilp, SimV_ptr, SimV_imm, SimV_nils, SimV_sl, SimV_lst, SimV_nilm, SimV_map, SimV_nilf, SimV_fn, SimV_nili, SimV_ifc, SimV_st, SimV_ar, SimV_tup, Sim, SimH, frz, hget, hhas, List.getElem?_cons_zero, List.getElem?_cons_succ, List.getElem?_nil, true_and, and_true, and_self, V.int.injEq, V.sl.injEq, V.ptr.injEq, V.bool.injEq, BEq.rfl, Bool.true_or, if_true, reduceCtorEq, Option.some.injEq, Nat.reduceEqDiff, if_false]
        intro j hj
        by_cases hji : j = o + i
        · rw [if_pos hji, if_pos (by omega), wrap_b, Int.fdiv_eq_ediv_of_nonneg _ (Int.pow_nonneg (by omega)), byt]
          have e1 : min (56 - 8 * (i : Int)).toNat IntKind.u64.bits = 56 - 8 * (j - o) := by simp only [IntKind.bits]; omega
          rw [e1]
        · rw [if_neg hji]
          by_cases h2 : o ≤ j ∧ j < o + i
          · rw [if_pos h2, if_pos (by omega)]
          · rw [if_neg h2, if_neg (by omega)]
    · have hge : ¬ (i : Int) < 8 := by simpa using hge
      have hi8 : i = 8 := by omega
      subst hi8
      refine RetS.mk hx [0] [] (.tup .fnil) _ 1 (by decide) ?_ ?_ ?_ ⟨rfl, rfl, rfl⟩
      · simp [res, resPs, tupP]
      · simp [res, tupV, SimV, Sim]
      · simp only [SimV_W, SimV_B, Sim_W, Sim_B, ws_at, bys_at, SimL, fr_same, fr_ne, fr_nil, ne_eq, not_false_eq_true, Nat.reduceLT, SimA, SimV_junk, SimV_int, SimV_bool, SimV_str, SimV_nilp, SimV_ptr, SimV_imm, SimV_nils, SimV_sl, SimV_lst, SimV_nilm, SimV_map, SimV_nilf, SimV_fn, SimV_nili, SimV_ifc, SimV_st, SimV_ar, SimV_tup, Sim, SimH, frz, hget, hhas, List.getElem?_cons_zero, List.getElem?_cons_succ, List.getElem?_nil, true_and, and_true, and_self, V.int.injEq, V.sl.injEq, V.ptr.injEq, V.bool.injEq, BEq.rfl, Bool.true_or, if_true, reduceCtorEq, Option.some.injEq, Nat.reduceEqDiff, if_false]
        intro i hi
        trivial
end Mv
namespace Mv
open Go
set_option maxRecDepth 10000
set_option linter.unusedSimpArgs false

theorem runs_Rot {M : Seat} (hc : chkF M 462 f462 = true) (x k : Nat) (hx : x < 18446744073709551616) (hk : k < 64) :
    Runs M 462 [.int .u64 x, .int .i64 k] [] 0 (fun r H' k' => r = .int .u64 (rotl x k : Nat) ∧ H' = [] ∧ k' = 0) := by
  refine runs_fr hc rfl fun c hck => ?_
  refine ex_sound 30 _ _ _ _ ?_
  simp only [f462, c462, ↓step_conv, vconv_int, vconv_B, vconv_W, vconv_Wi, vconv_Bi, vari_shl, vari_shr, vari_eql_W, vari_neq_W, vari_eql_Wc, vari_geq_Wc, vari_rem_Wc, xor_B, ex, Ro, RoD, OpD, epk, epochs, Mv.hx, idsOK, bs, wmask, LK.isW, LK.isA, LK.isP, step, put_fr, put_none, fr_same, fr_ne, fr_nil, fr_length, num, X.ev, List.cons_append, List.nil_append, ne_eq, not_false_eq_true, Nat.reduceLT, v_add, v_sub, v_mul, v_quo, v_rem, v_shl, v_shr, v_lss, v_leq, v_gtr, v_geq, v_eql, v_neq, v_and, v_or, v_xor, v_not, vari_xor, vari_and, vari_or, vun_xor, Int.reduceLE, Int.reduceLT, Int.cast_ofNat_Int, Int.le_refl, ite_W, ite_B, Int.toNat_natCast, true_or, or_true, Nat.add_zero, Nat.reducePow, Nat.reduceAnd, Nat.reduceOr, Nat.reduceShiftRight, GLv1, GLv2, GLv3, Nat.zero_or, Nat.or_zero, Nat.and_zero, Nat.zero_and, Nat.zero_shiftRight, BEq.rfl, Int.toNat_zero, Int.reduceToNat, ws_at, bys_at, solid_W, size_W, agg_W, solid_B, size_B, agg_B, vpick, vopt, optInt, isInt, vbuild, vbuildOK, vcaps, vcapsOK, elems, elemsOK, List.length_cons, List.length_nil, hget, hset, hdel, hhas, padd, V.ok, V.get, V.set, V.fget, V.fhas, V.fset, solid_int, solid_bool, solid_str, solid_nilp, solid_ptr, solid_imm, solid_nils, solid_sl, solid_lst, solid_nilm, solid_map, solid_nilf, solid_fn, solid_nili, solid_ifc, solid_st, solid_ar, size_int, size_bool, size_str, size_nilp, size_ptr, size_imm, size_nils, size_sl, size_lst, size_nilm, size_map, size_nilf, size_fn, size_nili, size_ifc, size_st, size_ar, agg_int, agg_bool, agg_str, agg_nilp, agg_ptr, agg_imm, agg_nils, agg_sl, agg_lst, agg_nilm, agg_map, agg_nilf, agg_fn, agg_nili, agg_ifc, agg_st, agg_ar, noR, Z.v, Z.sz, if_true, if_false, ite_true, ite_false, BEq.rfl, Bool.true_or, Bool.or_true, Bool.false_or, Bool.or_false, Bool.and_true, Bool.true_and, Bool.false_and, Bool.and_false, true_and, and_true, cond_true, cond_false, reduceCtorEq, Bool.false_eq_true, Bool.true_eq_false, false_implies, true_implies, forall_const, decide_true, decide_false, ite_int, ite_bool, Bool.not_true, Bool.not_false, Nat.reduceAdd, Nat.reduceMul, Nat.reduceSub, Nat.reduceBEq, Nat.reduceEqDiff, dropTo, List.map_cons, List.map_nil, List.filter_cons, List.filter_nil]
  have w1 : IntKind.u64.wrap ((k : Nat) : Int) = (k : Nat) := wrap_u64 (by omega)
  have w2 : IntKind.u64.wrap ((BitVec.ofInt IntKind.u64.bits ((k : Nat) : Int) &&& BitVec.ofInt IntKind.u64.bits 63).toNat : Int) = ((k : Nat) : Int) := by
    have h := and_nat (a := k) (b := 63) (by omega) (by omega)
    have h2 : k &&& 63 = k := by
      have h3 := Nat.and_two_pow_sub_one_eq_mod k 6
      have h4 : k &&& 63 = k % 2 ^ 6 := h3
      omega
    rw [h2] at h
    exact h
  have w3 : IntKind.u64.wrap (64 - ((k : Nat) : Int)) = ((64 - k : Nat) : Int) := by rw [wrap_u64 (by omega)]; omega
  have w4 := shl_nat (a := x) (k := k) hk
  have w5 := shr_nat (a := x) (k := 64 - k) (by omega)
  simp only [w1, w2, w3, w4, w5]
  have hl := rotl_lt (k := k) hx
  have w6 := or_nat (a := x <<< k % 18446744073709551616) (b := x >>> (64 - k)) (Nat.mod_lt _ (by omega)) (by
    rw [Nat.shiftRight_eq_div_pow]
    exact Nat.lt_of_le_of_lt (Nat.div_le_self _ _) hx)
  simp only [w6]
  refine ⟨by omega, by omega, ?_⟩
  refine RetS.mk hck [] [] (.int .u64 (rotl x k : Nat)) [] 0 (by decide) ?_ ?_ trivial ⟨rfl, rfl, rfl⟩
  · simp [res, resP]
  · simp only [res, resV, fr_same, fr_ne, ne_eq, not_false_eq_true, Nat.reduceLT, Nat.reduceEqDiff, SimV, Sim, rotl]

theorem runs_RotW {M : Seat} (hc : chkF M 462 f462 = true) (x : BitVec 64) (k : Nat) (hk : k < 64) :
    Runs M 462 [W x, .int .i64 k] [] 0 (fun r H' k' => r = W (rot x k) ∧ H' = [] ∧ k' = 0) := by
  have h := runs_Rot hc x.toNat k (lt_W x) hk
  simp only [rotl_rot] at h
  exact h
end Mv
