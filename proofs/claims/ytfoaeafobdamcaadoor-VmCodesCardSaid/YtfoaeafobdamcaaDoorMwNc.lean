/- VmCodes. -/
import Derived.Test.YtfoaeafobdamcaaDoorW1
import Derived.Test.YtfoaeafobdamcaaDoorMwNb
set_option linter.unusedSimpArgs false
set_option linter.unusedVariables false
namespace Mv
open Go
set_option maxRecDepth 20000
set_option maxHeartbeats 4000000
set_option linter.unusedSimpArgs false

theorem shlOr (x y : BitVec 64) (m k q : Nat) (hx : x.toNat = k) (hy : y.toNat = q) (hq : q < 2 ^ m) (h : k * 2 ^ m < 18446744073709551616) : (x <<< m ||| y).toNat = k * 2 ^ m + q := by
  rw [BitVec.toNat_or, BitVec.toNat_shiftLeft, hx, hy, Nat.shiftLeft_eq, Nat.mod_eq_of_lt h, ← Nat.shiftLeft_eq, Nat.shiftLeft_add_eq_or_of_lt hq]
theorem cdW_nat (op d a b c : Nat) (ho : op ≤ 35) (hd : d < 16) (ha : a < 16) (hb : b < 16) (hc : c < 16) (n : Int) :
    (cdW op d a b c n).toNat = ((((op * 16 + d) * 16 + a) * 16 + b) * 16 + c) * 1099511627776 + (n % 4294967296).toNat := by
  have e3 : (n % 4294967296).toNat < 4294967296 := by omega
  have s1 := shlOr _ _ 4 op d (ofInt_small op (by omega)) (ofInt_small d (by omega)) hd (by omega)
  have s2 := shlOr _ _ 4 _ a s1 (ofInt_small a (by omega)) ha (by omega)
  have s3 := shlOr _ _ 4 _ b s2 (ofInt_small b (by omega)) hb (by omega)
  have s4 := shlOr _ _ 4 _ c s3 (ofInt_small c (by omega)) hc (by omega)
  have e4 : (BitVec.ofInt 64 (IntKind.u32.wrap n)).toNat = (n % 4294967296).toNat := by
    have e : IntKind.u32.wrap n = n % 4294967296 := by simp [IntKind.wrap, IntKind.bits, IntKind.signed]
    rw [e, BitVec.toNat_ofInt]
    omega
  exact shlOr _ _ 40 _ _ s4 e4 (by omega) (by omega)
theorem cdW_rcW (op d a b c : Nat) (ho : op ≤ 35) (hd : d < 16) (ha : a < 16) (hb : b < 16) (hc : c < 16) (n : Int) : cdW op d a b c n = rcW op d a b c n :=
  BitVec.eq_of_toNat_eq ((cdW_nat op d a b c ho hd ha hb hc n).trans (rcW_nat op d a b c ho hd ha hb hc n).symm)

theorem runs_VmCodes {M : Seat} (okA : OkA M) (ok : OkNC M) (okN : OkN M) (op d a b c n : Int) (w : BitVec 64) :
    Runs M 12 [.int .i64 op, .int .i64 d, .int .i64 a, .int .i64 b, .int .i64 c, .int .i64 n, W w] [] 0 (fun r H' k' => r = .bool true ∧ H' = [] ∧ k' = 0) := by
  refine runs_fr ok.k12 rfl fun x hx => ?_
  have hv : ∀ z : BitVec 64, (BitVec.ofInt 64 (pN z) = BitVec.ofInt 64 (pN z)) = True := fun _ => eq_true rfl
  cases hi : isIn w
  case' true =>
    have hi' := hi
    simp only [isIn, decide_eq_true_eq] at hi'
    have hP := runs_Parts ok.toOkV w hi'.1 hi'.2
    have hR := runs_refParts ok w hi
  case' false =>
    have hi' := hi
    simp only [isIn, decide_eq_false_iff_not] at hi'
    have hP := runs_PartsNo ok.toOkV w hi'
    have hR := runs_refPartsNo ok w hi
  all_goals
    cases h : ptOk op d a b c n
    case' false =>
      refine ex_sound 2000 _ _ _ _ ?_; (simp (maxSteps := 4000000) only [f12, c12, LZ, seval, reduceCtorEq, forall_const])
      refine call_pZ (runs_CodeNo ok.toOkI op d a b c n h) ?_
      (simp (maxSteps := 4000000) only [tup2, LZ, seval, reduceCtorEq, forall_const])
      refine call_pZ (runs_refCodeNo ok.toOkI op d a b c n h) ?_
      (simp (maxSteps := 4000000) only [tup2, LZ, seval, reduceCtorEq, forall_const])
      refine call_fA (hR) (by decide) (by ((try simp only [tup3, LY, seval, reduceCtorEq, implies_true]); first | done | exact True.intro | rfl)) (by simp only [tup3, LX, implies_true]) (by simp only [tup3, LX, implies_true]) ?_
      (simp (maxSteps := 4000000) only [tup3, LZ, seval, reduceCtorEq, forall_const])
      refine call_pA (hP) (by ((try simp only [partsR, LY, seval, reduceCtorEq, implies_true]); first | done | exact True.intro | rfl)) (by first | rfl | (simp only [LN, LP, V.ren, tup2, tup3])) (by simp only [partsR, LX, implies_true]) ?_
      (simp (maxSteps := 4000000) only [partsR, LZ, seval, reduceCtorEq, forall_const])
      refine call_pZ (runs_fixed10 okA ok.toOkW) ?_
      (simp (maxSteps := 4000000) only [LZ, seval, reduceCtorEq, forall_const])
      refine call_pZ (runs_numNum okN 2) ?_
      (simp (maxSteps := 4000000) only [rpt, LZ, seval, reduceCtorEq, forall_const])
      exact RetS.mkZ hx [] ⟨rfl, rfl, rfl⟩
    simp only [ptOk, decide_eq_true_eq] at h
    obtain ⟨op, rfl⟩ := Int.eq_ofNat_of_zero_le h.1.1
    obtain ⟨d, rfl⟩ := Int.eq_ofNat_of_zero_le h.2.1.1
    obtain ⟨a, rfl⟩ := Int.eq_ofNat_of_zero_le h.2.2.1.1
    obtain ⟨b, rfl⟩ := Int.eq_ofNat_of_zero_le h.2.2.2.1.1
    obtain ⟨c, rfl⟩ := Int.eq_ofNat_of_zero_le h.2.2.2.2.1.1
    have ho : op ≤ 35 := by omega
    have hd : d < 16 := by omega
    have ha : a < 16 := by omega
    have hb : b < 16 := by omega
    have hc : c < 16 := by omega
    have hC := runs_Code ok.toOkI op d a b c n hd ha hb hc (by omega) (by omega)
    rw [cdW_rcW op d a b c ho hd ha hb hc n] at hC
    have hQ := runs_refCode ok.toOkI op d a b c n hd ha hb hc
    rw [rcOk_in op ho n h.2.2.2.2.2, if_pos rfl, if_pos rfl] at hQ
    have hL := runs_Parts ok.toOkV (rcW op d a b c n) (by rw [rcW_op op d a b c ho hd ha hb hc]; exact ho) (rcW_z op d a b c ho hd ha hb hc n)
    simp only [partsR, rcW_op op d a b c ho hd ha hb hc, rcW_d op d a b c ho hd ha hb hc, rcW_a op d a b c ho hd ha hb hc, rcW_b op d a b c ho hd ha hb hc, rcW_c op d a b c ho hd ha hb hc, rcW_n op d a b c ho hd ha hb hc n h.2.2.2.2.2] at hL
    refine ex_sound 2000 _ _ _ _ ?_; (simp (maxSteps := 4000000) only [f12, c12, LZ, seval, reduceCtorEq, forall_const])
    refine call_pZ (hC) ?_
    (simp (maxSteps := 4000000) only [tup2, LZ, seval, reduceCtorEq, forall_const])
    refine call_pZ (hQ) ?_
    (simp (maxSteps := 4000000) only [tup2, LZ, seval, reduceCtorEq, forall_const])
    refine call_fA (hR) (by decide) (by ((try simp only [tup3, LY, seval, reduceCtorEq, implies_true]); first | done | exact True.intro | rfl)) (by simp only [tup3, LX, implies_true]) (by simp only [tup3, LX, implies_true]) ?_
    (simp (maxSteps := 4000000) only [tup3, LZ, seval, reduceCtorEq, forall_const])
    refine call_pA (hP) (by ((try simp only [partsR, LY, seval, reduceCtorEq, implies_true]); first | done | exact True.intro | rfl)) (by first | rfl | (simp only [LN, LP, V.ren, tup2, tup3])) (by simp only [partsR, LX, implies_true]) ?_
    (simp (maxSteps := 4000000) only [partsR, LZ, seval, reduceCtorEq, forall_const])
    refine call_pZ (runs_fixed10 okA ok.toOkW) ?_
    (simp (maxSteps := 4000000) only [LZ, seval, reduceCtorEq, forall_const])
    refine call_pZ (runs_numNil okN) ?_
    (simp (maxSteps := 4000000) only [rpt, LZ, seval, reduceCtorEq, forall_const])
    refine call_pZ (hL) ?_
    (simp (maxSteps := 4000000) only [LZ, seval, reduceCtorEq, forall_const])
    exact RetS.mkZ hx [] ⟨rfl, rfl, rfl⟩
end Mv
