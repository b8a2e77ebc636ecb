/- octets.Put -/
import Derived.Test.YtncipgmjhaiagaaDoorCa
import Derived.Test.YtncipgmjhaiagaaDoorDa
import Derived.Test.YtncipgmjhaiagaaDoorT
set_option linter.unusedSimpArgs false
set_option linter.unusedVariables false
namespace Mv
open Go
set_option maxRecDepth 10000
set_option linter.unusedSimpArgs false

/-- The byte i of a word, the highest first. -/
def byt (v : Int) (i : Nat) : Int := (v / 2 ^ (56 - 8 * i)) % 256

theorem runs_Put {M : Seat} (hc : chkF M 312 f312 = true) (L o n : Nat) (g : Nat → Int) (v : Int) (hv : 0 ≤ v) (hn : 8 ≤ n) (hL : o + n ≤ L) :
    Runs M 312 [.sl 0 [] o n 1, .int .u64 v] [(0, .ar 1 L fun j => .int .u8 (g j))] 1 (fun r H' k' => r = .tup .fnil ∧ H' = [(0, .ar 1 L (fun j => .int .u8 (if o ≤ j ∧ j < o + 8 then byt v (j - o) else g j)))] ∧ k' = 1) := by
  refine runs_fr hc rfl fun x hx => ?_
  refine ex_sound 30 _ _ _ _ ?_
  simp only [f312, c312, LR, ↓step_conv, ex, Ro, RoD, OpD, epk, epochs, Mv.hx, idsOK, bs, wmask, LK.isW, LK.isA, LK.isP, step, num, X.ev, List.cons_append, List.nil_append, ne_eq, Nat.reduceLT, Int.reduceLE, Int.reduceLT, Int.cast_ofNat_Int, Nat.reducePow, Nat.reduceAnd, Nat.reduceOr, Nat.reduceShiftRight, BEq.rfl, Int.reduceToNat, vpick, vopt, optInt, isInt, vbuild, vbuildOK, vcaps, vcapsOK, elems, elemsOK, List.length_cons, List.length_nil, hget, hset, hdel, hhas, padd, V.ok, V.get, V.set, V.fget, V.fhas, V.fset, noR, Z.v, Z.sz, if_true, if_false, ite_true, ite_false, cond_true, cond_false, reduceCtorEq, forall_const, Nat.reduceAdd, Nat.reduceMul, Nat.reduceSub, Nat.reduceBEq, Nat.reduceEqDiff, dropTo, List.map_cons, List.map_nil, List.filter_cons, List.filter_nil]
  refine loop_rule (σ := Nat) (fun i => i ≤ 8) (fun i => fr 18 [(0, .sl 0 [] o n 1), (1, .int .u64 v), (5, .int .i64 i)])
    (fun i => [(0, .ar 1 L (fun j => .int .u8 (if o ≤ j ∧ j < o + i then byt v (j - o) else g j)))]) (fun _ => 1) (fun i => 8 - i) 0 (by omega) ?_ ?_
  · refine Weak.fr [0] [] hx (by simp only [fr_length]) (by decide) ?_ ?_
    · simp only [LS, SimL, ne_eq, Nat.reduceLT, SimA, Sim, SimH, frz, hget, hhas, List.getElem?_cons_zero, List.getElem?_cons_succ, List.getElem?_nil, BEq.rfl, if_true, reduceCtorEq, Option.some.injEq, Nat.reduceEqDiff, if_false]
      rfl
    · simp only [LS, SimL, ne_eq, Nat.reduceLT, SimA, Sim, SimH, frz, hget, hhas, List.getElem?_cons_zero, List.getElem?_cons_succ, List.getElem?_nil, BEq.rfl, if_true, reduceCtorEq, Option.some.injEq, Nat.reduceEqDiff, if_false]
      intro i hi
      rw [if_neg (by omega)]
  · intro i hi
    refine ex_sound 30 _ _ _ _ ?_
    simp only [LR, ↓step_conv, ex, Ro, RoD, OpD, epk, epochs, Mv.hx, idsOK, bs, wmask, LK.isW, LK.isA, LK.isP, step, num, X.ev, List.cons_append, List.nil_append, ne_eq, Nat.reduceLT, Int.reduceLE, Int.reduceLT, Int.cast_ofNat_Int, Nat.reducePow, Nat.reduceAnd, Nat.reduceOr, Nat.reduceShiftRight, BEq.rfl, Int.reduceToNat, vpick, vopt, optInt, isInt, vbuild, vbuildOK, vcaps, vcapsOK, elems, elemsOK, List.length_cons, List.length_nil, hget, hset, hdel, hhas, padd, V.ok, V.get, V.set, V.fget, V.fhas, V.fset, noR, Z.v, Z.sz, if_true, if_false, ite_true, ite_false, cond_true, cond_false, reduceCtorEq, forall_const, Nat.reduceAdd, Nat.reduceMul, Nat.reduceSub, Nat.reduceBEq, Nat.reduceEqDiff, dropTo, List.map_cons, List.map_nil, List.filter_cons, List.filter_nil]
    refine ⟨fun hlt => ?_, fun hge => ?_⟩
    · have hlt : (i : Int) < 8 := by simpa using hlt
      have w1 : IntKind.i64.wrap (8 * ↑i) = 8 * i := wrap_i64 (by omega)
      have w2 : IntKind.i64.wrap (56 - 8 * ↑i) = 56 - 8 * i := wrap_i64 (by omega)
      have w3 : IntKind.i64.wrap ((i : Int) + 1) = i + 1 := wrap_i64 (by omega)
      simp only [w1, w2, w3]
      refine ⟨by omega, ⟨by omega, by omega⟩, by omega, i + 1, by omega, by omega, Weak.fr [0] [] hx (by simp only [fr_length]) (by decide) ?_ ?_⟩
      · simp only [LS, SimL, ne_eq, Nat.reduceLT, SimA, Sim, SimH, frz, hget, hhas, List.getElem?_cons_zero, List.getElem?_cons_succ, List.getElem?_nil, BEq.rfl, if_true, reduceCtorEq, Option.some.injEq, Nat.reduceEqDiff, if_false]
        omega
      · simp only [LS, SimL, ne_eq, Nat.reduceLT, SimA, Sim, SimH, frz, hget, hhas, List.getElem?_cons_zero, List.getElem?_cons_succ, List.getElem?_nil, BEq.rfl, if_true, reduceCtorEq, Option.some.injEq, Nat.reduceEqDiff, if_false]
        intro j hj
        by_cases hji : j = o + i
        · rw [if_pos hji, if_pos (by omega), wrap_b, Int.fdiv_eq_ediv_of_nonneg _ (Int.pow_nonneg (by omega)), byt]
          have e1 : min (56 - 8 * (i : Int)).toNat IntKind.u64.bits = 56 - 8 * (j - o) := by simp only [IntKind.bits]; omega
          rw [e1]
        · rw [if_neg hji]
          by_cases h2 : o ≤ j ∧ j < o + i
          · rw [if_pos h2, if_pos (by omega)]
          · rw [if_neg h2, if_neg (by omega)]
    · have hge : ¬ (i : Int) < 8 := by simpa using hge
      have hi8 : i = 8 := by omega
      subst hi8
      refine RetS.mk hx [0] [] (.tup .fnil) _ 1 (by decide) ?_ ?_ ?_ ⟨rfl, rfl, rfl⟩
      · simp [res, resPs, tupP]
      · simp [res, tupV, SimV, Sim]
      · simp only [LS, SimL, ne_eq, Nat.reduceLT, SimA, Sim, SimH, frz, hget, hhas, List.getElem?_cons_zero, List.getElem?_cons_succ, List.getElem?_nil, BEq.rfl, if_true, reduceCtorEq, Option.some.injEq, Nat.reduceEqDiff, if_false]
        intro i hi
        trivial
end Mv
namespace Mv
open Go
set_option maxRecDepth 10000
set_option linter.unusedSimpArgs false

theorem runs_Rot {M : Seat} (hc : chkF M 462 f462 = true) (x k : Nat) (hx : x < 18446744073709551616) (hk : k < 64) :
    Runs M 462 [.int .u64 x, .int .i64 k] [] 0 (fun r H' k' => r = .int .u64 (rotl x k : Nat) ∧ H' = [] ∧ k' = 0) := by
  refine runs_fr hc rfl fun c hck => ?_
  refine ex_sound 30 _ _ _ _ ?_
  simp only [f462, c462, LR, ↓step_conv, ex, Ro, RoD, OpD, epk, epochs, Mv.hx, idsOK, bs, wmask, LK.isW, LK.isA, LK.isP, step, num, X.ev, List.cons_append, List.nil_append, ne_eq, Nat.reduceLT, Int.reduceLE, Int.reduceLT, Int.cast_ofNat_Int, Nat.reducePow, Nat.reduceAnd, Nat.reduceOr, Nat.reduceShiftRight, BEq.rfl, Int.reduceToNat, vpick, vopt, optInt, isInt, vbuild, vbuildOK, vcaps, vcapsOK, elems, elemsOK, List.length_cons, List.length_nil, hget, hset, hdel, hhas, padd, V.ok, V.get, V.set, V.fget, V.fhas, V.fset, noR, Z.v, Z.sz, if_true, if_false, ite_true, ite_false, cond_true, cond_false, reduceCtorEq, forall_const, Nat.reduceAdd, Nat.reduceMul, Nat.reduceSub, Nat.reduceBEq, Nat.reduceEqDiff, dropTo, List.map_cons, List.map_nil, List.filter_cons, List.filter_nil]
  have w1 : IntKind.u64.wrap ((k : Nat) : Int) = (k : Nat) := wrap_u64 (by omega)
  have w2 : IntKind.u64.wrap ((BitVec.ofInt IntKind.u64.bits ((k : Nat) : Int) &&& BitVec.ofInt IntKind.u64.bits 63).toNat : Int) = ((k : Nat) : Int) := by
    have h := and_nat (a := k) (b := 63) (by omega) (by omega)
    have h2 : k &&& 63 = k := by
      have h3 := Nat.and_two_pow_sub_one_eq_mod k 6
      have h4 : k &&& 63 = k % 2 ^ 6 := h3
      omega
    rw [h2] at h
    exact h
  have w3 : IntKind.u64.wrap (64 - ((k : Nat) : Int)) = ((64 - k : Nat) : Int) := by rw [wrap_u64 (by omega)]; omega
  have w4 := shl_nat (a := x) (k := k) hk
  have w5 := shr_nat (a := x) (k := 64 - k) (by omega)
  simp only [w1, w2, w3, w4, w5]
  have hl := rotl_lt (k := k) hx
  have w6 := or_nat (a := x <<< k % 18446744073709551616) (b := x >>> (64 - k)) (Nat.mod_lt _ (by omega)) (by
    rw [Nat.shiftRight_eq_div_pow]
    exact Nat.lt_of_le_of_lt (Nat.div_le_self _ _) hx)
  simp only [w6]
  refine ⟨by omega, by omega, ?_⟩
  refine RetS.mk hck [] [] (.int .u64 (rotl x k : Nat)) [] 0 (by decide) ?_ ?_ trivial ⟨rfl, rfl, rfl⟩
  · simp [res, resP]
  · simp only [res, resV, fr_same, fr_ne, ne_eq, not_false_eq_true, Nat.reduceLT, Nat.reduceEqDiff, SimV, Sim, rotl]

theorem runs_RotW {M : Seat} (hc : chkF M 462 f462 = true) (x : BitVec 64) (k : Nat) (hk : k < 64) :
    Runs M 462 [W x, .int .i64 k] [] 0 (fun r H' k' => r = W (rot x k) ∧ H' = [] ∧ k' = 0) := by
  have h := runs_Rot hc x.toNat k (lt_W x) hk
  simp only [rotl_rot] at h
  exact h
end Mv
