/- A machine's commitment. -/
import Derived.Test.YtncipgmjhaiagaaDoorT
import Derived.Test.YtncipgmjhaiagaaDoorW1
import Derived.Test.YtncipgmjhaiagaaDoorW7
import Derived.Test.YtncipgmjhaiagaaDoorDh
set_option linter.unusedSimpArgs false
set_option linter.unusedVariables false
namespace Mv
open Go
/-- moot/commit.Of -/
def c54 : LC := (.seq (.reg [A1 2 (.alloc (.ar 32 (.int .u8))),
  A1 3 (.mv (.c .nili))])
 ((.seq (.reg [A1 8 (.mv (.t 0)),
  ⟨(some 9), .call 55 [(.t 8)], none⟩,
  A1 7 (.mv (.t 9)),
  A1 10 (.ext (.t 7) 0),
  A1 11 (.ext (.t 7) 1),
  A1 4 (.alloc (.st (.cons (.ar 16 (.int .u64)) (.cons (.int .u64) (.cons .bool (.cons (.int .u64) .nil)))))),
  A0 (.store 19 (.t 4) (.t 10)),
  A1 5 (.mv (.t 11))])
 ((.seq ((.seq (.reg [A1 12 (.mv (.t 5)),
  A1 13 (.eq true true (.iface [74]) (.t 12) (.c .nili))])
 (.cond (.t 13) ((.seq (.reg [A1 14 (.build (.ar 32 (.int .u8)) []),
  A1 15 (.mv (.t 5)),
  A0 (.store 32 (.t 2) (.t 14)),
  A1 3 (.mv (.t 15))])
 (.ret))) (.skip))))
 ((.seq (.reg [A1 17 (.mv (.t 0)),
  ⟨(some 18), .call 51 [(.t 17)], none⟩,
  A1 16 (.mv (.t 18)),
  A1 19 (.ext (.t 16) 0),
  A1 20 (.ext (.t 16) 1),
  A1 6 (.alloc (.ar 32 (.int .u8))),
  A0 (.store 32 (.t 6) (.t 19)),
  A1 5 (.mv (.t 20))])
 ((.seq (.reg [A1 21 (.load true 32 (.t 6)),
  A1 22 (.load true 19 (.t 4)),
  ⟨(some 23), .call 62 [(.t 21), (.t 22)], none⟩,
  A1 24 (.mv (.t 5)),
  A0 (.store 32 (.t 2) (.t 23)),
  A1 3 (.mv (.t 24))])
 (.ret))))))))))
def f54 : LF := ⟨c54, 1, 0, 25, [.cell 2 true 32, .tmp 3]⟩

/-- moot/commit.HeadOf -/
def c55 : LC := (.seq (.reg [A1 2 (.alloc (.st (.cons (.ar 16 (.int .u64)) (.cons (.int .u64) (.cons .bool (.cons (.int .u64) .nil)))))),
  A1 3 (.mv (.c .nili))])
 ((.seq ((.seq (.reg [A1 4 (.mv (.t 0)),
  A1 5 (.eq false true .ptr (.t 4) (.c .nilp))])
 (.cond (.t 5) ((.seq (.reg [A1 6 (.build (.st (.cons (.ar 16 (.int .u64)) (.cons (.int .u64) (.cons .bool (.cons (.int .u64) .nil))))) []),
  A1 7 (.mkif 74 (.c (.int .i64 1))),
  A0 (.store 19 (.t 2) (.t 6)),
  A1 3 (.mv (.t 7))])
 (.ret))) (.skip))))
 ((.seq (.regd [⟨0, 0, A1 8 (.mv (.t 0))⟩,
  ⟨1, 1, A1 9 (.nilc (.t 8))⟩,
  ⟨2, 3, A1 10 (.fadr 8192 (.t 9))⟩,
  ⟨3, 7, A1 11 (.load true 16 (.t 10))⟩,
  ⟨4, 0, A1 12 (.mv (.t 0))⟩,
  ⟨5, 16, A1 13 (.nilc (.t 12))⟩,
  ⟨6, 48, A1 14 (.fadr 8208 (.t 13))⟩,
  ⟨7, 112, A1 15 (.load false 1 (.t 14))⟩,
  ⟨8, 0, A1 16 (.mv (.t 0))⟩,
  ⟨9, 256, A1 17 (.nilc (.t 16))⟩,
  ⟨10, 768, A1 18 (.fadr 8209 (.t 17))⟩,
  ⟨11, 1792, A1 19 (.load false 1 (.t 18))⟩,
  ⟨12, 0, A1 20 (.mv (.t 0))⟩,
  ⟨13, 4096, A1 21 (.nilc (.t 20))⟩,
  ⟨14, 12288, A1 22 (.fadr 8210 (.t 21))⟩,
  ⟨15, 28672, A1 23 (.load false 1 (.t 22))⟩,
  ⟨16, 65535, A1 24 (.build (.st (.cons (.ar 16 (.int .u64)) (.cons (.int .u64) (.cons .bool (.cons (.int .u64) .nil))))) [(.f 0, 16, (.t 11)), (.f 16, 1, (.t 15)), (.f 17, 1, (.t 19)), (.f 18, 1, (.t 23))])⟩,
  ⟨17, 131071, A0 (.store 19 (.t 2) (.t 24))⟩,
  ⟨18, 262143, A1 3 (.mv (.c .nili))⟩])
 (.ret))))))
def f55 : LF := ⟨c55, 1, 0, 25, [.cell 2 true 19, .tmp 3]⟩

/-- moot/commit.Digest -/
def c59 : LC := (.seq (.reg [A1 1 (.box (.t 0)),
  A1 2 (.alloc (.ar 32 (.int .u8)))])
 ((.seq (.reg [A1 7 (.fadr 0 (.t 1)),
  A1 8 (.slarr 16 1 (.t 7) none none),
  A1 3 (.mv (.t 8))])
 ((.seq (.reg [A1 4 (.mv (.c (.int .u64 0)))])
 ((.seq ((.seq (.reg [A1 9 (.fadr 17 (.t 1)),
  A1 10 (.load false 1 (.t 9))])
 (.cond (.t 10) (.reg [A1 4 (.mv (.c (.int .u64 1)))]) (.skip))))
 ((.seq (.regd [⟨0, 0, A1 11 (.mv (.t 3))⟩,
  ⟨1, 1, ⟨(some 12), .call 208 [(.t 11)], none⟩⟩,
  ⟨2, 0, A1 13 (.mv (.t 3))⟩,
  ⟨3, 4, A1 14 (.slsl 1 (.t 13) (some (.c (.int .i64 4))) none)⟩,
  ⟨4, 15, ⟨(some 15), .call 208 [(.t 14)], none⟩⟩,
  ⟨5, 31, ⟨(some 16), .call 207 [(.t 12), (.t 15)], none⟩⟩,
  ⟨6, 0, A1 17 (.mv (.t 3))⟩,
  ⟨7, 64, A1 18 (.slsl 1 (.t 17) (some (.c (.int .i64 8))) none)⟩,
  ⟨8, 255, ⟨(some 19), .call 208 [(.t 18)], none⟩⟩,
  ⟨9, 0, A1 20 (.mv (.t 3))⟩,
  ⟨10, 512, A1 21 (.slsl 1 (.t 20) (some (.c (.int .i64 12))) none)⟩,
  ⟨11, 2047, ⟨(some 22), .call 208 [(.t 21)], none⟩⟩,
  ⟨12, 4095, ⟨(some 23), .call 207 [(.t 19), (.t 22)], none⟩⟩,
  ⟨13, 0, A1 5 (.alloc (.ar 32 (.int .u8)))⟩,
  ⟨14, 0, A1 6 (.alloc (.ar 32 (.int .u8)))⟩,
  ⟨15, 32767, A0 (.store 32 (.t 5) (.t 16))⟩,
  ⟨16, 65535, A0 (.store 32 (.t 6) (.t 23))⟩])
 ((.seq (.regd [⟨0, 0, A1 24 (.load true 32 (.t 5))⟩,
  ⟨1, 0, A1 25 (.load true 32 (.t 6))⟩,
  ⟨2, 3, ⟨(some 26), .call 207 [(.t 24), (.t 25)], none⟩⟩,
  ⟨3, 0, A1 27 (.fadr 16 (.t 1))⟩,
  ⟨4, 8, A1 28 (.load false 1 (.t 27))⟩,
  ⟨5, 0, A1 29 (.mv (.t 4))⟩,
  ⟨6, 0, A1 30 (.fadr 18 (.t 1))⟩,
  ⟨7, 64, A1 31 (.load false 1 (.t 30))⟩,
  ⟨8, 248, A1 32 (.bsl 1 4 (.int .u64) [(.i 1 0, 1, (.t 28)), (.i 1 1, 1, (.t 29)), (.i 1 2, 1, (.t 31)), (.i 1 3, 1, (.c (.int .u64 0)))])⟩,
  ⟨9, 511, ⟨(some 33), .call 208 [(.t 32)], none⟩⟩,
  ⟨10, 1023, ⟨(some 34), .call 207 [(.t 26), (.t 33)], none⟩⟩,
  ⟨11, 2047, A0 (.store 32 (.t 2) (.t 34))⟩])
 (.ret))))))))))))
def f59 : LF := ⟨c59, 1, 0, 35, [.cell 2 true 32]⟩

/-- moot/commit.Join -/
def c62 : LC := (.seq (.reg [A1 2 (.box (.t 0)),
  A1 3 (.box (.t 1)),
  A1 4 (.alloc (.ar 32 (.int .u8)))])
 ((.seq (.regd [⟨1, 0, A1 6 (.load true 19 (.t 3))⟩,
  ⟨2, 1, ⟨(some 7), .call 59 [(.t 6)], none⟩⟩,
  ⟨0, 0, A1 5 (.load true 32 (.t 2))⟩,
  ⟨3, 7, ⟨(some 8), .call 207 [(.t 5), (.t 7)], none⟩⟩,
  ⟨4, 15, A0 (.store 32 (.t 4) (.t 8))⟩])
 (.ret))))
def f62 : LF := ⟨c62, 2, 0, 9, [.cell 4 true 32]⟩

/-- moot/commit.four -/
def c208 : LC := (.seq (.reg [A1 2 (.alloc (.ar 32 (.int .u8)))])
 ((.seq (.reg [A1 3 (.alloc (.ar 32 (.int .u8)))])
 ((.seq ((.seq (.reg [A1 5 (.mv (.c (.int .i64 0)))])
 (.block 0 (.loop ((.seq (.reg [A1 6 (.ari .lss (.t 5) (.c (.int .i64 4)))])
 ((.seq (.cond (.t 6) (.skip) (.exit 0))
 ((.seq (.block 1 ((.seq (.reg [A1 7 (.mv (.t 5)),
  A1 4 (.mv (.t 7))])
 (.regd [⟨0, 0, A1 8 (.mv (.t 4))⟩,
  ⟨1, 1, A1 9 (.ari .mul (.c (.int .i64 8)) (.t 8))⟩,
  ⟨2, 3, A1 10 (.slarr 32 1 (.t 3) (some (.t 9)) none)⟩,
  ⟨3, 0, A1 11 (.mv (.t 0))⟩,
  ⟨4, 0, A1 12 (.mv (.t 4))⟩,
  ⟨5, 24, A1 13 (.isl 1 (.t 11) (.t 12))⟩,
  ⟨6, 56, A1 14 (.load false 1 (.t 13))⟩,
  ⟨7, 127, ⟨(some 15), .call 312 [(.t 10), (.t 14)], none⟩⟩]))))
 (.reg [A1 16 (.ari .add (.t 5) (.c (.int .i64 1))),
  A1 5 (.mv (.t 16))])))))))))))
 ((.seq (.reg [A1 17 (.load true 32 (.t 3)),
  A0 (.store 32 (.t 2) (.t 17))])
 (.ret))))))))
def f208 : LF := ⟨c208, 1, 0, 18, [.cell 2 true 32]⟩

end Mv
namespace Mv
open Go
set_option maxRecDepth 20000
set_option maxHeartbeats 4000000
set_option linter.unusedSimpArgs false

structure OkD (M : Seat) : Prop where
  k54 : chkF M 54 f54 = true
  k55 : chkF M 55 f55 = true
  k59 : chkF M 59 f59 = true
  k62 : chkF M 62 f62 = true
  k208 : chkF M 208 f208 = true

theorem runs_PutW {M : Seat} (hc : chkF M 312 f312 = true) (n o m : Nat) (ho : o + 8 ≤ n) (hm : 8 ≤ m) (hom : o + m ≤ n) (p : Nat → BitVec 8) (w : BitVec 64) :
    Runs M 312 [.sl 0 [] o m 1, W w] [(0, .ar 1 n fun j => B (p j))] 1 (fun r H' k' => r = .tup .fnil ∧ H' = [(0, .ar 1 n fun j => B (if o ≤ j ∧ j < o + 8 then byW w (j - o) else p j))] ∧ k' = 1) := by
  have h := runs_Put hc n o m (fun j => ((p j).toNat : Int)) (w.toNat : Int) (by omega) (by omega) (by omega)
  have e : (fun j => V.int .u8 (if o ≤ j ∧ j < o + 8 then byt (w.toNat : Int) (j - o) else ((p j).toNat : Int))) = (fun j => B (if o ≤ j ∧ j < o + 8 then byW w (j - o) else p j)) := by
    funext j
    by_cases hj : o ≤ j ∧ j < o + 8
    · rw [if_pos hj, if_pos hj]; exact byt_B w (j - o)
    · rw [if_neg hj, if_neg hj]; rfl
  rw [e] at h
  exact h

/-- Four words as a digest. -/
def fourD (w : Nat → BitVec 64) : Dg := Dg.mk' (byWs w)
def w4 (a b c d : BitVec 64) (j : Nat) : BitVec 64 := if j = 0 then a else if j = 1 then b else if j = 2 then c else d

theorem runs_four {M : Seat} (ok : OkM M) (okD : OkD M) (n : Nat) (hn : 4 ≤ n) (w : Nat → BitVec 64) :
    Runs M 208 [.lst 1 n (fun j => W (w j))] [] 0 (fun r H' k' => r = dg (fourD w) ∧ H' = [] ∧ k' = 0) := by
  refine runs_fr okD.k208 rfl fun x hx => ?_
  refine ex_sound 2000 _ _ _ _ ?_; (simp (maxSteps := 4000000) only [f208, c208, LZ, seval, reduceCtorEq, forall_const])
  refine loop_rule (σ := Nat) (fun i => i ≤ 4) (fun i => fr 18 [(0, .lst 1 n (fun j => W (w j))), (2, .ptr 0 []), (3, .ptr 1 []), (5, .int .i64 i)])
      (fun i => [(0, .ar 1 32 (fun _ => B 0)), (1, .ar 1 32 (fun j => B (if j < 8 * i then byWs w j else 0)))]) (fun _ => 2) (fun i => 4 - i) 0 (by omega) ?_ ?_
  · refine Weak.fr [0, 16] [] hx (by simp only [fr_length]) (by decide) ?_ ?_
    · simp only [LY, seval, reduceCtorEq, implies_true]
    · simp only [LY, seval, reduceCtorEq, implies_true]
      intro j hj
      rw [if_neg (by omega)]
  · intro i hi
    refine ex_sound 2000 _ _ _ _ ?_
    by_cases h4 : i = 4
    · subst h4
      (simp (maxSteps := 4000000) only [LZ, seval, reduceCtorEq, forall_const])
      refine RetS.mk hx [] [] (dg (fourD w)) [] 0 (by decide) (by simp only [LV, LZ, seval, reduceCtorEq, forall_const]) ?_ trivial ⟨rfl, rfl, rfl⟩
      simp only [LV, LZ, seval, reduceCtorEq, forall_const]
      simp only [dg, LY, seval, reduceCtorEq, implies_true]
      intro j hj
      rw [if_pos (by omega), fourD, Dg.at_mk' _ _ hj]
    · have d0 : ((i : Int) < 4) = True := eq_true (by omega)
      have w1 : IntKind.i64.wrap ((i : Int) + 1) = ((i + 1 : Nat) : Int) := by rw [wrap_i64 (by omega)]; omega
      have w2 : IntKind.i64.wrap (8 * (i : Int)) = ((8 * i : Nat) : Int) := by rw [wrap_i64 (by omega)]; omega
      (simp (maxSteps := 4000000) only [d0, w1, w2, LZ, seval, reduceCtorEq, forall_const])
      repeat (refine And.intro (by first | omega | exact True.intro | rfl) ?_)
      refine opd_mZ [1] (runs_PutW ok.k312 32 (8 * i) (32 - 8 * i) (by omega) (by omega) (by omega) (fun j => if j < 8 * i then byWs w j else 0#8) (w i)) ?_
      (simp (maxSteps := 4000000) only [w1, LZ, seval, reduceCtorEq, forall_const])
      repeat (refine And.intro (by first | omega | exact True.intro | rfl) ?_)
      refine ⟨i + 1, by omega, by omega, ?_⟩
      refine Weak.fr [0, 1] [] hx (by simp only [fr_length]) (by decide) ?_ ?_
      · simp only [LY, seval, reduceCtorEq, implies_true]
      · simp only [LY, seval, reduceCtorEq, implies_true]
        intro j hj
        by_cases h1 : 8 * i ≤ j ∧ j < 8 * i + 8
        · rw [if_pos h1, if_pos (by omega), byWs, show j / 8 = i by omega, show j % 8 = j - 8 * i by omega]
        · rw [if_neg h1]
          by_cases h2 : j < 8 * i
          · rw [if_pos h2, if_pos (by omega)]
          · rw [if_neg h2, if_neg (by omega)]

def hdV (g : Nat → BitVec 64) (pc : BitVec 64) (hl : Bool) (xt : BitVec 64) : V :=
  .st 19 (.fcons 0 (.ar 1 16 (fun j => W (g j))) (.fcons 16 (W pc) (.fcons 17 (.bool hl) (.fcons 18 (W xt) .fnil))))

theorem runs_Head {M : Seat} (ok : OkD M) (f g : Nat → BitVec 64) (pc : BitVec 64) (hl : Bool) (xt : BitVec 64) :
    Runs M 55 [.imm (mach f g pc hl xt)] [] 0 (fun r H' k' => r = tup2 (hdV g pc hl xt) .nili ∧ H' = [] ∧ k' = 0) := by
  refine runs_fr ok.k55 rfl fun x hx => ?_
  refine ex_sound 2000 _ _ _ _ ?_; (simp (maxSteps := 4000000) only [f55, c55, mach, LZ, seval, reduceCtorEq, forall_const])
  refine RetS.mk hx [] [] _ _ _ (by decide) (by (simp only [LV, hdV, LZ, seval, reduceCtorEq, forall_const])) (by ((try simp only [LV, hdV, LZ, seval, reduceCtorEq, forall_const, LY, seval, reduceCtorEq, implies_true]); first | done | exact True.intro | (intros; rfl))) (by ((try simp only [hdV, LY, seval, reduceCtorEq, implies_true]); first | done | exact True.intro | (intros; rfl))) ⟨rfl, rfl, rfl⟩

/-- A head's digest. -/
def headD (g : Nat → BitVec 64) (pc : BitVec 64) (hl : Bool) (xt : BitVec 64) : Dg :=
  pair (pair (pair (fourD g) (fourD fun j => g (4 + j))) (pair (fourD fun j => g (8 + j)) (fourD fun j => g (12 + j)))) (fourD (w4 pc (if hl then 1 else 0) xt 0))

theorem runs_Digest_false {M : Seat} (ok : OkM M) (okD : OkD M) (g : Nat → BitVec 64) (pc : BitVec 64) (xt : BitVec 64) :
    Runs M 59 [hdV g pc false xt] [] 0 (fun r H' k' => r = dg (headD g pc false xt) ∧ H' = [] ∧ k' = 0) := by
  refine runs_fr okD.k59 rfl fun x hx => ?_
  refine ex_sound 2000 _ _ _ _ ?_; (simp (maxSteps := 4000000) only [f59, c59, hdV, LZ, seval, reduceCtorEq, forall_const])
  repeat (refine And.intro (by first | omega | exact True.intro | rfl) ?_)
  refine opd_pZ (runs_four ok okD 16 (by omega) g) ?_
  (simp (maxSteps := 4000000) only [LZ, seval, reduceCtorEq, forall_const])
  repeat (refine And.intro (by first | omega | exact True.intro | rfl) ?_)
  refine opd_pZ (runs_four ok okD 12 (by omega) (fun j => g (4 + j))) ?_
  (simp (maxSteps := 4000000) only [LZ, seval, reduceCtorEq, forall_const])
  repeat (refine And.intro (by first | omega | exact True.intro | rfl) ?_)
  refine opd_pZ (runs_Pair ok (fourD g) (fourD fun j => g (4 + j))) ?_
  (simp (maxSteps := 4000000) only [LZ, seval, reduceCtorEq, forall_const])
  repeat (refine And.intro (by first | omega | exact True.intro | rfl) ?_)
  refine opd_pZ (runs_four ok okD 8 (by omega) (fun j => g (8 + j))) ?_
  (simp (maxSteps := 4000000) only [LZ, seval, reduceCtorEq, forall_const])
  repeat (refine And.intro (by first | omega | exact True.intro | rfl) ?_)
  refine opd_pZ (runs_four ok okD 4 (by omega) (fun j => g (12 + j))) ?_
  (simp (maxSteps := 4000000) only [LZ, seval, reduceCtorEq, forall_const])
  repeat (refine And.intro (by first | omega | exact True.intro | rfl) ?_)
  refine opd_pZ (runs_Pair ok (fourD fun j => g (8 + j)) (fourD fun j => g (12 + j))) ?_
  (simp (maxSteps := 4000000) only [LZ, seval, reduceCtorEq, forall_const])
  repeat (refine And.intro (by first | omega | exact True.intro | rfl) ?_)
  refine opd_pZ (runs_Pair ok (pair (fourD g) (fourD fun j => g (4 + j))) (pair (fourD fun j => g (8 + j)) (fourD fun j => g (12 + j)))) ?_
  (simp (maxSteps := 4000000) only [LZ, seval, reduceCtorEq, forall_const])
  repeat (refine And.intro (by first | omega | exact True.intro | rfl) ?_)
  refine opd_pA (runs_four ok okD 4 (by omega) (w4 pc 0#64 xt 0#64)) (by ((try simp only [LT, LY, seval, reduceCtorEq, implies_true]); first | done | exact True.intro | rfl | ((intro j hj; unfold w4; (repeat' split); all_goals first | exact (Sim_W _ _ _ _ _).mpr rfl | omega)))) (by first | rfl | (simp only [LN, LP, V.ren, tup2, tup3])) (by simp only [LT, LX, implies_true]) ?_
  (simp (maxSteps := 4000000) only [LZ, seval, reduceCtorEq, forall_const])
  repeat (refine And.intro (by first | omega | exact True.intro | rfl) ?_)
  refine opd_pZ (runs_Pair ok (pair (pair (fourD g) (fourD fun j => g (4 + j))) (pair (fourD fun j => g (8 + j)) (fourD fun j => g (12 + j)))) (fourD (w4 pc 0#64 xt 0#64))) ?_
  (simp (maxSteps := 4000000) only [LZ, seval, reduceCtorEq, forall_const])
  repeat (refine And.intro (by first | omega | exact True.intro | rfl) ?_)
  refine RetS.mk hx [] [] _ _ _ (by decide) (by (simp only [LV, headD, if_true, Bool.false_eq_true, if_false, LZ, seval, reduceCtorEq, forall_const])) (by ((try simp only [LV, headD, if_true, Bool.false_eq_true, if_false, LZ, seval, reduceCtorEq, forall_const, LY, seval, reduceCtorEq, implies_true]); first | done | exact True.intro | (intros; rfl))) (by ((try simp only [headD, if_true, Bool.false_eq_true, if_false, LY, seval, reduceCtorEq, implies_true]); first | done | exact True.intro | (intros; rfl))) ⟨rfl, rfl, rfl⟩
theorem runs_Digest_true {M : Seat} (ok : OkM M) (okD : OkD M) (g : Nat → BitVec 64) (pc : BitVec 64) (xt : BitVec 64) :
    Runs M 59 [hdV g pc true xt] [] 0 (fun r H' k' => r = dg (headD g pc true xt) ∧ H' = [] ∧ k' = 0) := by
  refine runs_fr okD.k59 rfl fun x hx => ?_
  refine ex_sound 2000 _ _ _ _ ?_; (simp (maxSteps := 4000000) only [f59, c59, hdV, LZ, seval, reduceCtorEq, forall_const])
  repeat (refine And.intro (by first | omega | exact True.intro | rfl) ?_)
  refine opd_pZ (runs_four ok okD 16 (by omega) g) ?_
  (simp (maxSteps := 4000000) only [LZ, seval, reduceCtorEq, forall_const])
  repeat (refine And.intro (by first | omega | exact True.intro | rfl) ?_)
  refine opd_pZ (runs_four ok okD 12 (by omega) (fun j => g (4 + j))) ?_
  (simp (maxSteps := 4000000) only [LZ, seval, reduceCtorEq, forall_const])
  repeat (refine And.intro (by first | omega | exact True.intro | rfl) ?_)
  refine opd_pZ (runs_Pair ok (fourD g) (fourD fun j => g (4 + j))) ?_
  (simp (maxSteps := 4000000) only [LZ, seval, reduceCtorEq, forall_const])
  repeat (refine And.intro (by first | omega | exact True.intro | rfl) ?_)
  refine opd_pZ (runs_four ok okD 8 (by omega) (fun j => g (8 + j))) ?_
  (simp (maxSteps := 4000000) only [LZ, seval, reduceCtorEq, forall_const])
  repeat (refine And.intro (by first | omega | exact True.intro | rfl) ?_)
  refine opd_pZ (runs_four ok okD 4 (by omega) (fun j => g (12 + j))) ?_
  (simp (maxSteps := 4000000) only [LZ, seval, reduceCtorEq, forall_const])
  repeat (refine And.intro (by first | omega | exact True.intro | rfl) ?_)
  refine opd_pZ (runs_Pair ok (fourD fun j => g (8 + j)) (fourD fun j => g (12 + j))) ?_
  (simp (maxSteps := 4000000) only [LZ, seval, reduceCtorEq, forall_const])
  repeat (refine And.intro (by first | omega | exact True.intro | rfl) ?_)
  refine opd_pZ (runs_Pair ok (pair (fourD g) (fourD fun j => g (4 + j))) (pair (fourD fun j => g (8 + j)) (fourD fun j => g (12 + j)))) ?_
  (simp (maxSteps := 4000000) only [LZ, seval, reduceCtorEq, forall_const])
  repeat (refine And.intro (by first | omega | exact True.intro | rfl) ?_)
  refine opd_pA (runs_four ok okD 4 (by omega) (w4 pc 1#64 xt 0#64)) (by ((try simp only [LT, LY, seval, reduceCtorEq, implies_true]); first | done | exact True.intro | rfl | ((intro j hj; unfold w4; (repeat' split); all_goals first | exact (Sim_W _ _ _ _ _).mpr rfl | omega)))) (by first | rfl | (simp only [LN, LP, V.ren, tup2, tup3])) (by simp only [LT, LX, implies_true]) ?_
  (simp (maxSteps := 4000000) only [LZ, seval, reduceCtorEq, forall_const])
  repeat (refine And.intro (by first | omega | exact True.intro | rfl) ?_)
  refine opd_pZ (runs_Pair ok (pair (pair (fourD g) (fourD fun j => g (4 + j))) (pair (fourD fun j => g (8 + j)) (fourD fun j => g (12 + j)))) (fourD (w4 pc 1#64 xt 0#64))) ?_
  (simp (maxSteps := 4000000) only [LZ, seval, reduceCtorEq, forall_const])
  repeat (refine And.intro (by first | omega | exact True.intro | rfl) ?_)
  refine RetS.mk hx [] [] _ _ _ (by decide) (by (simp only [LV, headD, if_true, Bool.false_eq_true, if_false, LZ, seval, reduceCtorEq, forall_const])) (by ((try simp only [LV, headD, if_true, Bool.false_eq_true, if_false, LZ, seval, reduceCtorEq, forall_const, LY, seval, reduceCtorEq, implies_true]); first | done | exact True.intro | (intros; rfl))) (by ((try simp only [headD, if_true, Bool.false_eq_true, if_false, LY, seval, reduceCtorEq, implies_true]); first | done | exact True.intro | (intros; rfl))) ⟨rfl, rfl, rfl⟩
theorem runs_Digest {M : Seat} (ok : OkM M) (okD : OkD M) (g : Nat → BitVec 64) (pc : BitVec 64) (hl : Bool) (xt : BitVec 64) :
    Runs M 59 [hdV g pc hl xt] [] 0 (fun r H' k' => r = dg (headD g pc hl xt) ∧ H' = [] ∧ k' = 0) := by
  cases hl
  · exact runs_Digest_false ok okD g pc xt
  · exact runs_Digest_true ok okD g pc xt

theorem runs_Join {M : Seat} (ok : OkM M) (okD : OkD M) (r : Dg) (g : Nat → BitVec 64) (pc : BitVec 64) (hl : Bool) (xt : BitVec 64) :
    Runs M 62 [dg r, hdV g pc hl xt] [] 0 (fun r' H' k' => r' = dg (pair r (headD g pc hl xt)) ∧ H' = [] ∧ k' = 0) := by
  refine runs_fr okD.k62 rfl fun x hx => ?_
  refine ex_sound 2000 _ _ _ _ ?_; (simp (maxSteps := 4000000) only [f62, c62, hdV, LZ, seval, reduceCtorEq, forall_const])
  repeat (refine And.intro (by first | omega | exact True.intro | rfl) ?_)
  refine opd_pA (runs_Digest ok okD g pc hl xt) (by ((try simp only [hdV, LY, seval, reduceCtorEq, implies_true]); first | done | exact True.intro | rfl)) (by first | rfl | (simp only [LN, LP, V.ren, tup2, tup3])) (by simp only [hdV, LX, implies_true]) ?_
  (simp (maxSteps := 4000000) only [LZ, seval, reduceCtorEq, forall_const])
  repeat (refine And.intro (by first | omega | exact True.intro | rfl) ?_)
  refine opd_pZ (runs_Pair ok r (headD g pc hl xt)) ?_
  (simp (maxSteps := 4000000) only [LZ, seval, reduceCtorEq, forall_const])
  repeat (refine And.intro (by first | omega | exact True.intro | rfl) ?_)
  exact RetS.mkZ hx [] ⟨rfl, rfl, rfl⟩

/-- A machine's commitment. -/
def comD (f g : Nat → BitVec 64) (pc : BitVec 64) (hl : Bool) (xt : BitVec 64) : Dg := pair (memN f 13 0) (headD g pc hl xt)

theorem runs_Of {M : Seat} (ok : OkM M) (okD : OkD M) (f g : Nat → BitVec 64) (pc : BitVec 64) (hl : Bool) (xt : BitVec 64) :
    Runs M 54 [.imm (mach f g pc hl xt)] [] 0 (fun r H' k' => r = tup2 (dg (comD f g pc hl xt)) .nili ∧ H' = [] ∧ k' = 0) := by
  refine runs_fr okD.k54 rfl fun x hx => ?_
  refine ex_sound 2000 _ _ _ _ ?_; (simp (maxSteps := 4000000) only [f54, c54, LZ, seval, reduceCtorEq, forall_const])
  refine call_pA (runs_Head okD f g pc hl xt) (by ((try simp only [mach, hdV, LY, seval, reduceCtorEq, implies_true]); first | done | exact True.intro | rfl)) (by first | rfl | (simp only [LN, LP, V.ren, tup2, tup3])) (by simp only [mach, hdV, LX, implies_true]) ?_
  (simp (maxSteps := 4000000) only [tup2, hdV, LZ, seval, reduceCtorEq, forall_const])
  refine call_pA (runs_cRoot ok f g pc hl xt) (by ((try simp only [mach, LY, seval, reduceCtorEq, implies_true]); first | done | exact True.intro | rfl)) (by first | rfl | (simp only [LN, LP, V.ren, tup2, tup3])) (by simp only [mach, LX, implies_true]) ?_
  (simp (maxSteps := 4000000) only [tup2, LZ, seval, reduceCtorEq, forall_const])
  refine call_pA (runs_Join ok okD (memN f 13 0) g pc hl xt) (by ((try simp only [hdV, LY, seval, reduceCtorEq, implies_true]); first | done | exact True.intro | rfl)) (by first | rfl | (simp only [LN, LP, V.ren, tup2, tup3])) (by simp only [hdV, LX, implies_true]) ?_
  (simp (maxSteps := 4000000) only [LZ, seval, reduceCtorEq, forall_const])
  refine RetS.mk hx [] [] _ _ _ (by decide) (by (simp only [LV, comD, LZ, seval, reduceCtorEq, forall_const])) (by ((try simp only [LV, comD, LZ, seval, reduceCtorEq, forall_const, LY, seval, reduceCtorEq, implies_true]); first | done | exact True.intro | (intros; rfl))) (by ((try simp only [comD, LY, seval, reduceCtorEq, implies_true]); first | done | exact True.intro | (intros; rfl))) ⟨rfl, rfl, rfl⟩
end Mv
