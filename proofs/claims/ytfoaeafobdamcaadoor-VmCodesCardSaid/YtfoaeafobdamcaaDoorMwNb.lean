/- Code and the document's, at any parts; the document's Parts. -/
import Derived.Test.YtfoaeafobdamcaaDoorW1
import Derived.Test.YtfoaeafobdamcaaDoorW4
import Derived.Test.YtfoaeafobdamcaaDoorMwNa
import Derived.Test.YtfoaeafobdamcaaDoorMwC12
set_option linter.unusedSimpArgs false
set_option linter.unusedVariables false
namespace Mv
open Go
set_option maxRecDepth 20000
set_option maxHeartbeats 4000000
set_option linter.unusedSimpArgs false

/-- Are they an instruction's parts? -/
def ptOk (op d a b c n : Int) : Bool := decide ((0 ≤ op ∧ op ≤ 35) ∧ (0 ≤ d ∧ d ≤ 15) ∧ (0 ≤ a ∧ a ≤ 15) ∧ (0 ≤ b ∧ b ≤ 15) ∧ (0 ≤ c ∧ c ≤ 15) ∧ -2147483648 ≤ n ∧ n < 2147483648)
structure OkNC (M : Seat) : Prop extends OkW M where
  k78 : chkF M 78 f78 = true
  k12 : chkF M 12 f12 = true

theorem i32_eq (n : Int) : IntKind.i64.wrap (IntKind.i32.wrap n) = n ↔ (-2147483648 ≤ n ∧ n < 2147483648) := by
  rw [i32_wrap, i32_i64]
  unfold i32
  split <;> omega

theorem runs_CodeNo {M : Seat} (ok : OkI M) (op d a b c n : Int) (h : ptOk op d a b c n = false) :
    Runs M 76 [.int .i64 op, .int .i64 d, .int .i64 a, .int .i64 b, .int .i64 c, .int .i64 n] [] 0 (fun r H' k' => r = tup2 (W 0#64) (erN 2) ∧ H' = [] ∧ k' = 0) := by
  refine runs_fr ok.k76 rfl fun x hx => ?_
  have w1 : IntKind.i64.wrap 1 = 1 := rfl
  have w2 : IntKind.i64.wrap 2 = 2 := rfl
  have w3 : IntKind.i64.wrap 3 = 3 := rfl
  have w4 : IntKind.i64.wrap 4 = 4 := rfl
  simp only [ptOk, decide_eq_false_iff_not] at h
  by_cases h1 : op < 0
  · refine ex_sound 2000 _ _ _ _ ?_; (simp (maxSteps := 4000000) only [f76, c76, eq_true h1, LZ, seval, reduceCtorEq, forall_const])
    exact RetS.mkZ hx [] ⟨rfl, rfl, rfl⟩
  by_cases h2 : 35 < op
  · refine ex_sound 2000 _ _ _ _ ?_; (simp (maxSteps := 4000000) only [f76, c76, eq_false h1, eq_true h2, LZ, seval, reduceCtorEq, forall_const])
    exact RetS.mkZ hx [] ⟨rfl, rfl, rfl⟩
  by_cases h3 : n = IntKind.i64.wrap (IntKind.i32.wrap n)
  case neg =>
    refine ex_sound 2000 _ _ _ _ ?_; (simp (maxSteps := 4000000) only [f76, c76, eq_false h1, eq_false h2, eq_false h3, LZ, seval, reduceCtorEq, forall_const])
    exact RetS.mkZ hx [] ⟨rfl, rfl, rfl⟩
  have h3' := (i32_eq n).1 h3.symm
  refine ex_sound 2000 _ _ _ _ ?_; (simp (maxSteps := 4000000) only [f76, c76, eq_false h1, eq_false h2, eq_true h3, LZ, seval, reduceCtorEq, forall_const])
  refine loop_once ?_
  refine ex_sound 2000 _ _ _ _ ?_
  by_cases ld : d < 0
  · (simp (maxSteps := 4000000) only [eq_true ld, LZ, seval, reduceCtorEq, forall_const])
    exact RetS.mkZ hx [] ⟨rfl, rfl, rfl⟩
  by_cases md : 15 < d
  · (simp (maxSteps := 4000000) only [eq_false ld, eq_true md, LZ, seval, reduceCtorEq, forall_const])
    exact RetS.mkZ hx [] ⟨rfl, rfl, rfl⟩
  (simp (maxSteps := 4000000) only [eq_false ld, eq_false md, w1, w2, w3, w4, LZ, seval, reduceCtorEq, forall_const])
  repeat (refine And.intro (by first | omega | exact True.intro | rfl) ?_)
  refine loop_once ?_
  refine ex_sound 2000 _ _ _ _ ?_
  by_cases la : a < 0
  · (simp (maxSteps := 4000000) only [eq_true la, LZ, seval, reduceCtorEq, forall_const])
    exact RetS.mkZ hx [] ⟨rfl, rfl, rfl⟩
  by_cases ma : 15 < a
  · (simp (maxSteps := 4000000) only [eq_false la, eq_true ma, LZ, seval, reduceCtorEq, forall_const])
    exact RetS.mkZ hx [] ⟨rfl, rfl, rfl⟩
  (simp (maxSteps := 4000000) only [eq_false la, eq_false ma, w1, w2, w3, w4, LZ, seval, reduceCtorEq, forall_const])
  repeat (refine And.intro (by first | omega | exact True.intro | rfl) ?_)
  refine loop_once ?_
  refine ex_sound 2000 _ _ _ _ ?_
  by_cases lb : b < 0
  · (simp (maxSteps := 4000000) only [eq_true lb, LZ, seval, reduceCtorEq, forall_const])
    exact RetS.mkZ hx [] ⟨rfl, rfl, rfl⟩
  by_cases mb : 15 < b
  · (simp (maxSteps := 4000000) only [eq_false lb, eq_true mb, LZ, seval, reduceCtorEq, forall_const])
    exact RetS.mkZ hx [] ⟨rfl, rfl, rfl⟩
  (simp (maxSteps := 4000000) only [eq_false lb, eq_false mb, w1, w2, w3, w4, LZ, seval, reduceCtorEq, forall_const])
  repeat (refine And.intro (by first | omega | exact True.intro | rfl) ?_)
  refine loop_once ?_
  refine ex_sound 2000 _ _ _ _ ?_
  by_cases lc : c < 0
  · (simp (maxSteps := 4000000) only [eq_true lc, LZ, seval, reduceCtorEq, forall_const])
    exact RetS.mkZ hx [] ⟨rfl, rfl, rfl⟩
  by_cases mc : 15 < c
  · (simp (maxSteps := 4000000) only [eq_false lc, eq_true mc, LZ, seval, reduceCtorEq, forall_const])
    exact RetS.mkZ hx [] ⟨rfl, rfl, rfl⟩
  (simp (maxSteps := 4000000) only [eq_false lc, eq_false mc, w1, w2, w3, w4, LZ, seval, reduceCtorEq, forall_const])
  repeat (refine And.intro (by first | omega | exact True.intro | rfl) ?_)
  omega

theorem runs_refCodeNo {M : Seat} (ok : OkI M) (op d a b c n : Int) (h : ptOk op d a b c n = false) :
    Runs M 77 [.int .i64 op, .int .i64 d, .int .i64 a, .int .i64 b, .int .i64 c, .int .i64 n] [] 0 (fun r H' k' => r = tup2 (W 0#64) (.int .i64 2) ∧ H' = [] ∧ k' = 0) := by
  refine runs_fr ok.k77 rfl fun x hx => ?_
  have w1 : IntKind.i64.wrap 1 = 1 := rfl
  have w2 : IntKind.i64.wrap 2 = 2 := rfl
  have w3 : IntKind.i64.wrap 3 = 3 := rfl
  have w4 : IntKind.i64.wrap 4 = 4 := rfl
  simp only [ptOk, decide_eq_false_iff_not] at h
  refine ex_sound 2000 _ _ _ _ ?_; (simp (maxSteps := 4000000) only [f77, c77, LZ, seval, reduceCtorEq, forall_const])
  refine loop_once ?_
  refine ex_sound 2000 _ _ _ _ ?_
  by_cases ld : d < 0
  · (simp (maxSteps := 4000000) only [eq_true ld, LZ, seval, reduceCtorEq, forall_const])
    exact RetS.mkZ hx [] ⟨rfl, rfl, rfl⟩
  by_cases md : 15 < d
  · (simp (maxSteps := 4000000) only [eq_false ld, eq_true md, LZ, seval, reduceCtorEq, forall_const])
    exact RetS.mkZ hx [] ⟨rfl, rfl, rfl⟩
  (simp (maxSteps := 4000000) only [eq_false ld, eq_false md, w1, w2, w3, w4, LZ, seval, reduceCtorEq, forall_const])
  repeat (refine And.intro (by first | omega | exact True.intro | rfl) ?_)
  refine loop_once ?_
  refine ex_sound 2000 _ _ _ _ ?_
  by_cases la : a < 0
  · (simp (maxSteps := 4000000) only [eq_true la, LZ, seval, reduceCtorEq, forall_const])
    exact RetS.mkZ hx [] ⟨rfl, rfl, rfl⟩
  by_cases ma : 15 < a
  · (simp (maxSteps := 4000000) only [eq_false la, eq_true ma, LZ, seval, reduceCtorEq, forall_const])
    exact RetS.mkZ hx [] ⟨rfl, rfl, rfl⟩
  (simp (maxSteps := 4000000) only [eq_false la, eq_false ma, w1, w2, w3, w4, LZ, seval, reduceCtorEq, forall_const])
  repeat (refine And.intro (by first | omega | exact True.intro | rfl) ?_)
  refine loop_once ?_
  refine ex_sound 2000 _ _ _ _ ?_
  by_cases lb : b < 0
  · (simp (maxSteps := 4000000) only [eq_true lb, LZ, seval, reduceCtorEq, forall_const])
    exact RetS.mkZ hx [] ⟨rfl, rfl, rfl⟩
  by_cases mb : 15 < b
  · (simp (maxSteps := 4000000) only [eq_false lb, eq_true mb, LZ, seval, reduceCtorEq, forall_const])
    exact RetS.mkZ hx [] ⟨rfl, rfl, rfl⟩
  (simp (maxSteps := 4000000) only [eq_false lb, eq_false mb, w1, w2, w3, w4, LZ, seval, reduceCtorEq, forall_const])
  repeat (refine And.intro (by first | omega | exact True.intro | rfl) ?_)
  refine loop_once ?_
  refine ex_sound 2000 _ _ _ _ ?_
  by_cases lc : c < 0
  · (simp (maxSteps := 4000000) only [eq_true lc, LZ, seval, reduceCtorEq, forall_const])
    exact RetS.mkZ hx [] ⟨rfl, rfl, rfl⟩
  by_cases mc : 15 < c
  · (simp (maxSteps := 4000000) only [eq_false lc, eq_true mc, LZ, seval, reduceCtorEq, forall_const])
    exact RetS.mkZ hx [] ⟨rfl, rfl, rfl⟩
  (simp (maxSteps := 4000000) only [eq_false lc, eq_false mc, w1, w2, w3, w4, LZ, seval, reduceCtorEq, forall_const])
  repeat (refine And.intro (by first | omega | exact True.intro | rfl) ?_)
  refine loop_once ?_
  refine ex_sound 2000 _ _ _ _ ?_
  by_cases h1 : op < 0
  · (simp (maxSteps := 4000000) only [eq_true h1, LZ, seval, reduceCtorEq, forall_const])
    exact RetS.mkZ hx [] ⟨rfl, rfl, rfl⟩
  by_cases h2 : 35 < op
  · (simp (maxSteps := 4000000) only [eq_false h1, eq_true h2, LZ, seval, reduceCtorEq, forall_const])
    exact RetS.mkZ hx [] ⟨rfl, rfl, rfl⟩
  by_cases h3 : n < -2147483648
  · (simp (maxSteps := 4000000) only [eq_false h1, eq_false h2, eq_true h3, LZ, seval, reduceCtorEq, forall_const])
    exact RetS.mkZ hx [] ⟨rfl, rfl, rfl⟩
  by_cases h4 : 2147483648 ≤ n
  · (simp (maxSteps := 4000000) only [eq_false h1, eq_false h2, eq_false h3, eq_true h4, LZ, seval, reduceCtorEq, forall_const])
    exact RetS.mkZ hx [] ⟨rfl, rfl, rfl⟩
  omega

/-- Is it an instruction's word? -/
def isIn (w : BitVec 64) : Bool := decide (pOp w ≤ 35 ∧ w >>> 32 &&& 255#64 = 0#64)
/-- What the document's Parts gives. -/
def rpt (w : BitVec 64) (i : Nat) : Int := if i = 0 then (pOp w : Nat) else if i = 1 then (pF w 52 : Nat) else if i = 2 then (pF w 48 : Nat) else if i = 3 then (pF w 44 : Nat) else (pF w 40 : Nat)
theorem pN_wide (w : BitVec 64) (h : 2147483648#64 ≤ w &&& 4294967295#64) : (w &&& 4294967295#64) + 18446744069414584320#64 = BitVec.ofInt 64 (pN w) := by
  have e : (w &&& 4294967295#64).toNat = w.toNat % 4294967296 := by
    rw [BitVec.toNat_and, show (4294967295#64).toNat = 2 ^ 32 - 1 from rfl, Nat.and_two_pow_sub_one_eq_mod]
  have h' : 2147483648 ≤ w.toNat % 4294967296 := by rw [← e]; exact h
  apply BitVec.eq_of_toNat_eq
  rw [BitVec.toNat_add, e, show (18446744069414584320#64).toNat = 18446744069414584320 from rfl, BitVec.toNat_ofInt, pN_nat, if_neg (by omega)]
  omega
theorem pN_narrow (w : BitVec 64) (h : ¬ 2147483648#64 ≤ w &&& 4294967295#64) : (w &&& 4294967295#64) = BitVec.ofInt 64 (pN w) := by
  have e : (w &&& 4294967295#64).toNat = w.toNat % 4294967296 := by
    rw [BitVec.toNat_and, show (4294967295#64).toNat = 2 ^ 32 - 1 from rfl, Nat.and_two_pow_sub_one_eq_mod]
  have h' : ¬ 2147483648 ≤ w.toNat % 4294967296 := by rw [← e]; exact h
  apply BitVec.eq_of_toNat_eq
  rw [e, BitVec.toNat_ofInt, pN_nat, if_pos (by omega)]
  omega

theorem runs_refParts {M : Seat} (ok : OkNC M) (w : BitVec 64) (h : isIn w = true) :
    Runs M 78 [W w] [] 0 (fun r H' k' => r = tup3 (.sl 0 [] 0 5 1) (W (BitVec.ofInt 64 (pN w))) (.bool true) ∧ H' = [(0, .ar 1 5 fun i => .int .i64 (rpt w i))] ∧ k' = 1) := by
  simp only [isIn, decide_eq_true_eq] at h
  refine runs_fr ok.k78 rfl fun x hx => ?_
  have e1 : ((35 : Int) < (pOp w : Int)) = False := eq_false (by omega)
  have h2 := h.2
  by_cases hb : 2147483648#64 ≤ w &&& 4294967295#64
  · refine ex_sound 2000 _ _ _ _ ?_; (simp (maxSteps := 4000000) only [f78, c78, pOp_int, pF_int, e1, h2, eq_true hb, pN_wide w hb, LZ, seval, reduceCtorEq, forall_const])
    repeat (refine And.intro (by first | omega | exact True.intro | rfl) ?_)
    refine RetS.mk hx [640] [] (tup3 (.sl 0 [] 0 5 1) (W (BitVec.ofInt 64 (pN w))) (.bool true)) ([(0, .ar 1 5 fun i => .int .i64 (rpt w i))]) 1 (by decide) (by (simp only [LV, LZ, seval, reduceCtorEq, forall_const])) (by ((try simp only [LV, LZ, seval, reduceCtorEq, forall_const, LY, seval, reduceCtorEq, implies_true]); first | done | exact True.intro | (intros; rfl))) ?_ ⟨rfl, rfl, rfl⟩
    simp only [LY, seval, reduceCtorEq, implies_true]
    intro i hi
    have : i = 0 ∨ i = 1 ∨ i = 2 ∨ i = 3 ∨ i = 4 := by omega
    rcases this with rfl | rfl | rfl | rfl | rfl <;> rfl
  · have hb' : (2147483648#64 ≤ BitVec.ofInt 64 (pN w)) = False := by rw [← pN_narrow w hb]; exact eq_false hb
    refine ex_sound 2000 _ _ _ _ ?_; (simp (maxSteps := 4000000) only [f78, c78, pOp_int, pF_int, e1, h2, eq_false hb, hb', pN_narrow w hb, LZ, seval, reduceCtorEq, forall_const])
    repeat (refine And.intro (by first | omega | exact True.intro | rfl) ?_)
    refine RetS.mk hx [592] [] (tup3 (.sl 0 [] 0 5 1) (W (BitVec.ofInt 64 (pN w))) (.bool true)) ([(0, .ar 1 5 fun i => .int .i64 (rpt w i))]) 1 (by decide) (by (simp only [LV, LZ, seval, reduceCtorEq, forall_const])) (by ((try simp only [LV, LZ, seval, reduceCtorEq, forall_const, LY, seval, reduceCtorEq, implies_true]); first | done | exact True.intro | (intros; rfl))) ?_ ⟨rfl, rfl, rfl⟩
    simp only [LY, seval, reduceCtorEq, implies_true]
    intro i hi
    have : i = 0 ∨ i = 1 ∨ i = 2 ∨ i = 3 ∨ i = 4 := by omega
    rcases this with rfl | rfl | rfl | rfl | rfl <;> rfl

theorem runs_refPartsNo {M : Seat} (ok : OkNC M) (w : BitVec 64) (h : isIn w = false) :
    Runs M 78 [W w] [] 0 (fun r H' k' => r = tup3 (.sl 0 [] 0 5 1) (W 0#64) (.bool false) ∧ H' = [(0, .ar 1 5 fun _ => .int .i64 0)] ∧ k' = 1) := by
  simp only [isIn, decide_eq_false_iff_not] at h
  refine runs_fr ok.k78 rfl fun x hx => ?_
  by_cases hp : pOp w ≤ 35
  · have e1 : ((35 : Int) < (pOp w : Int)) = False := eq_false (by omega)
    have e2 : (w >>> 32 &&& 255#64 = 0#64) = False := eq_false (fun h' => h ⟨hp, h'⟩)
    refine ex_sound 2000 _ _ _ _ ?_; (simp (maxSteps := 4000000) only [f78, c78, pOp_int, e1, e2, LZ, seval, reduceCtorEq, forall_const])
    refine RetS.mk hx [240] [] (tup3 (.sl 0 [] 0 5 1) (W 0#64) (.bool false)) ([(0, .ar 1 5 fun _ => .int .i64 0)]) 1 (by decide) (by (simp only [LV, LZ, seval, reduceCtorEq, forall_const])) (by ((try simp only [LV, LZ, seval, reduceCtorEq, forall_const, LY, seval, reduceCtorEq, implies_true]); first | done | exact True.intro | (intros; rfl))) ?_ ⟨rfl, rfl, rfl⟩
    simp only [LY, seval, reduceCtorEq, implies_true]
    intro i hi
    have : i = 0 ∨ i = 1 ∨ i = 2 ∨ i = 3 ∨ i = 4 := by omega
    rcases this with rfl | rfl | rfl | rfl | rfl <;> rfl
  · have e1 : ((35 : Int) < (pOp w : Int)) = True := eq_true (by omega)
    refine ex_sound 2000 _ _ _ _ ?_; (simp (maxSteps := 4000000) only [f78, c78, pOp_int, e1, LZ, seval, reduceCtorEq, forall_const])
    refine RetS.mk hx [240] [] (tup3 (.sl 0 [] 0 5 1) (W 0#64) (.bool false)) ([(0, .ar 1 5 fun _ => .int .i64 0)]) 1 (by decide) (by (simp only [LV, LZ, seval, reduceCtorEq, forall_const])) (by ((try simp only [LV, LZ, seval, reduceCtorEq, forall_const, LY, seval, reduceCtorEq, implies_true]); first | done | exact True.intro | (intros; rfl))) ?_ ⟨rfl, rfl, rfl⟩
    simp only [LY, seval, reduceCtorEq, implies_true]
    intro i hi
    have : i = 0 ∨ i = 1 ∨ i = 2 ∨ i = 3 ∨ i = 4 := by omega
    rcases this with rfl | rfl | rfl | rfl | rfl <;> rfl
end Mv
