/- The document's store of preimages, made; both stores. -/
import Derived.Test.YtdenaplelfkecaaDoorT
import Derived.Test.YtdenaplelfkecaaDoorW1
import Derived.Test.YtdenaplelfkecaaDoorW2
import Derived.Test.YtdenaplelfkecaaDoorEe
set_option linter.unusedSimpArgs false
set_option linter.unusedVariables false
namespace Mv
open Go
/-- moot/mootlaw10.Stores -/
def c73 : LC := (.seq (.reg [A1 2 (.mv (.c .nilp)),
  A1 3 (.mv (.c .nilp))])
 ((.seq (.reg [⟨(some 8), .call 68 [], none⟩,
  ⟨(some 9), .call 218 [], none⟩,
  A1 4 (.mv (.t 8)),
  A1 5 (.mv (.t 9))])
 ((.seq ((.seq (.reg [A1 10 (.mv (.t 4)),
  A1 11 (.eq false true .ptr (.t 10) (.c .nilp))])
 (.cond (.t 11) ((.seq (.reg [A1 12 (.mv (.t 5)),
  A1 2 (.mv (.c .nilp)),
  A1 3 (.mv (.t 12))])
 (.ret))) (.skip))))
 ((.seq ((.seq (.reg [A1 13 (.mv (.t 0)),
  A1 14 (.len 0 (.t 13)),
  A1 15 (.mv (.c (.int .i64 0)))])
 (.block 0 (.loop ((.seq (.reg [A1 16 (.ari .lss (.t 15) (.t 14))])
 ((.seq (.cond (.t 16) (.skip) (.exit 0))
 ((.seq (.block 1 ((.seq (.reg [A1 17 (.mv (.t 15)),
  A1 18 (.isl 64 (.t 13) (.t 15)),
  A1 19 (.load true 64 (.t 18)),
  A1 7 (.alloc (.ar 64 (.int .u8))),
  A1 6 (.mv (.t 17)),
  A0 (.store 64 (.t 7) (.t 19))])
 ((.seq ((.seq (.reg [A1 20 (.mv (.t 6)),
  A1 21 (.ari .geq (.t 20) (.c (.int .i64 50)))])
 (.cond (.t 21) (.exit 0) (.skip))))
 ((.seq (.reg [A1 22 (.mv (.t 4)),
  A1 23 (.load true 64 (.t 7)),
  ⟨(some 24), .call 212 [(.t 22), (.t 23)], none⟩])
 (.reg [A1 25 (.mv (.t 5)),
  A1 26 (.load true 64 (.t 7)),
  ⟨(some 27), .call 219 [(.t 25), (.t 26)], none⟩]))))))))
 (.reg [A1 28 (.ari .add (.t 15) (.c (.int .i64 1))),
  A1 15 (.mv (.t 28))])))))))))))
 ((.seq (.reg [A1 29 (.mv (.t 4)),
  A1 30 (.mv (.t 5)),
  A1 2 (.mv (.t 29)),
  A1 3 (.mv (.t 30))])
 (.ret))))))))))
def f73 : LF := ⟨c73, 1, 0, 31, [.tmp 2, .tmp 3]⟩

/-- moot/mootref06.New -/
def c218 : LC := (.seq (.reg [A1 0 (.mv (.c .nilp))])
 ((.seq (.reg [A1 4 (.build (.st (.cons .slice (.cons .slice (.cons .slice (.cons .bool .nil))))) []),
  A1 5 (.box (.t 4)),
  A1 1 (.mv (.t 5))])
 ((.seq (.reg [⟨(some 6), .call 205 [], none⟩,
  A1 2 (.mv (.t 6))])
 ((.seq ((.seq (.reg [A1 3 (.mv (.c (.int .i64 0)))])
 (.block 0 (.loop ((.seq ((.seq (.reg [A1 7 (.mv (.t 3)),
  A1 8 (.ari .lss (.t 7) (.c (.int .i64 16)))])
 (.cond (.t 8) (.skip) (.exit 0))))
 ((.seq (.block 1 (.regd [⟨1, 0, A1 12 (.mv (.t 2))⟩,
  ⟨2, 0, A1 13 (.mv (.t 3))⟩,
  ⟨3, 3, A1 14 (.isl 32 (.t 12) (.t 13))⟩,
  ⟨4, 7, A1 15 (.load true 32 (.t 14))⟩,
  ⟨5, 0, A1 16 (.mv (.t 2))⟩,
  ⟨6, 0, A1 17 (.mv (.t 3))⟩,
  ⟨7, 48, A1 18 (.isl 32 (.t 16) (.t 17))⟩,
  ⟨8, 112, A1 19 (.load true 32 (.t 18))⟩,
  ⟨9, 255, ⟨(some 20), .call 329 [(.t 15), (.t 19)], none⟩⟩,
  ⟨0, 0, A1 11 (.mv (.t 1))⟩,
  ⟨10, 1023, ⟨(some 21), .call 219 [(.t 11), (.t 20)], none⟩⟩]))
 (.reg [A1 9 (.mv (.t 3)),
  A1 10 (.ari .add (.t 9) (.c (.int .i64 1))),
  A1 3 (.mv (.t 10))])))))))))
 ((.seq (.reg [A1 22 (.mv (.t 1)),
  A1 0 (.mv (.t 22))])
 (.ret))))))))))
def f218 : LF := ⟨c218, 0, 0, 23, [.tmp 0]⟩

/-- (*moot/mootref06.Store).Add -/
def c219 : LC := (.seq (.reg [A1 3 (.box (.t 1)),
  A1 4 (.alloc (.ar 32 (.int .u8)))])
 ((.seq (.reg [A1 7 (.slarr 64 1 (.t 3) none none),
  ⟨(some 8), .call 311 [(.t 7)], none⟩,
  A1 5 (.alloc (.ar 32 (.int .u8))),
  A0 (.store 32 (.t 5) (.t 8))])
 ((.seq (.reg [A1 9 (.mv (.t 0)),
  A1 10 (.load true 32 (.t 5)),
  ⟨(some 11), .call 330 [(.t 9), (.t 10)], none⟩,
  A1 6 (.mv (.t 11))])
 ((.seq ((.seq (.reg [A1 12 (.mv (.t 6)),
  A1 13 (.ari .lss (.t 12) (.c (.int .i64 0)))])
 (.cond (.t 13) ((.seq (.regd [⟨1, 0, A1 15 (.mv (.t 0))⟩,
  ⟨2, 1, A1 16 (.nilc (.t 15))⟩,
  ⟨3, 3, A1 17 (.fadr 0 (.t 16))⟩,
  ⟨4, 7, A1 18 (.load false 1 (.t 17))⟩,
  ⟨5, 0, A1 19 (.load true 32 (.t 5))⟩,
  ⟨6, 16, A1 20 (.bsl 32 1 (.ar 32 (.int .u8)) [(.i 32 0, 32, (.t 19))])⟩,
  ⟨7, 63, A1 21 (.app 32 32 (.t 18) (.t 20))⟩,
  ⟨0, 0, A1 14 (.mv (.t 0))⟩,
  ⟨8, 255, A1 22 (.nilc (.t 14))⟩,
  ⟨9, 511, A1 23 (.fadr 0 (.t 22))⟩,
  ⟨10, 1023, A0 (.store 1 (.t 23) (.t 21))⟩])
 (.regd [⟨1, 0, A1 25 (.mv (.t 0))⟩,
  ⟨2, 1, A1 26 (.nilc (.t 25))⟩,
  ⟨3, 3, A1 27 (.fadr 1 (.t 26))⟩,
  ⟨4, 7, A1 28 (.load false 1 (.t 27))⟩,
  ⟨5, 0, A1 29 (.load true 64 (.t 3))⟩,
  ⟨6, 16, A1 30 (.bsl 64 1 (.ar 64 (.int .u8)) [(.i 64 0, 64, (.t 29))])⟩,
  ⟨7, 63, A1 31 (.app 64 64 (.t 28) (.t 30))⟩,
  ⟨0, 0, A1 24 (.mv (.t 0))⟩,
  ⟨8, 255, A1 32 (.nilc (.t 24))⟩,
  ⟨9, 511, A1 33 (.fadr 1 (.t 32))⟩,
  ⟨10, 1023, A0 (.store 1 (.t 33) (.t 31))⟩]))) ((.seq (.regd [⟨0, 0, A1 34 (.mv (.t 0))⟩,
  ⟨1, 1, A1 35 (.nilc (.t 34))⟩,
  ⟨2, 3, A1 36 (.fadr 1 (.t 35))⟩,
  ⟨3, 7, A1 37 (.load false 1 (.t 36))⟩,
  ⟨4, 0, A1 38 (.mv (.t 6))⟩,
  ⟨5, 31, A1 39 (.isl 64 (.t 37) (.t 38))⟩,
  ⟨6, 63, A1 40 (.load true 64 (.t 39))⟩,
  ⟨7, 0, A1 41 (.load true 64 (.t 3))⟩,
  ⟨8, 255, A1 42 (.eq true false (.ar 64 1 false .int) (.t 40) (.t 41))⟩])
 (.cond (.t 42) ((.seq (.regd [⟨0, 0, A1 43 (.mv (.t 0))⟩,
  ⟨1, 1, A1 44 (.nilc (.t 43))⟩,
  ⟨2, 3, A1 45 (.fadr 1 (.t 44))⟩,
  ⟨3, 7, A1 46 (.load false 1 (.t 45))⟩,
  ⟨4, 0, A1 47 (.mv (.t 6))⟩,
  ⟨5, 0, A1 48 (.load true 64 (.t 3))⟩,
  ⟨6, 63, A1 49 (.isl 64 (.t 46) (.t 47))⟩,
  ⟨7, 127, A0 (.store 64 (.t 49) (.t 48))⟩])
 (.reg [A1 50 (.mv (.t 0)),
  A1 51 (.nilc (.t 50)),
  A1 52 (.fadr 3 (.t 51)),
  A0 (.store 1 (.t 52) (.c (.bool true)))]))) (.skip)))))))
 ((.seq (.reg [A1 53 (.load true 32 (.t 5)),
  A0 (.store 32 (.t 4) (.t 53))])
 (.ret))))))))))
def f219 : LF := ⟨c219, 2, 0, 54, [.cell 4 true 32]⟩

/-- moot/mootref06.Joined -/
def c329 : LC := (.seq (.reg [A1 2 (.box (.t 0)),
  A1 3 (.box (.t 1)),
  A1 4 (.alloc (.ar 64 (.int .u8)))])
 ((.seq (.reg [A1 5 (.alloc (.ar 64 (.int .u8)))])
 ((.seq ((.seq (.reg [A1 6 (.mv (.c (.int .i64 0)))])
 (.block 0 (.loop ((.seq ((.seq (.reg [A1 7 (.mv (.t 6)),
  A1 8 (.ari .lss (.t 7) (.c (.int .i64 32)))])
 (.cond (.t 8) (.skip) (.exit 0))))
 ((.seq (.block 1 ((.seq (.reg [A1 11 (.mv (.t 6)),
  A1 12 (.mv (.t 6)),
  A1 13 (.iarr 32 1 (.t 2) (.t 12)),
  A1 14 (.load false 1 (.t 13)),
  A1 15 (.iarr 64 1 (.t 5) (.t 11)),
  A0 (.store 1 (.t 15) (.t 14))])
 (.reg [A1 16 (.mv (.t 6)),
  A1 17 (.ari .add (.c (.int .i64 32)) (.t 16)),
  A1 18 (.mv (.t 6)),
  A1 19 (.iarr 32 1 (.t 3) (.t 18)),
  A1 20 (.load false 1 (.t 19)),
  A1 21 (.iarr 64 1 (.t 5) (.t 17)),
  A0 (.store 1 (.t 21) (.t 20))]))))
 (.reg [A1 9 (.mv (.t 6)),
  A1 10 (.ari .add (.t 9) (.c (.int .i64 1))),
  A1 6 (.mv (.t 10))])))))))))
 ((.seq (.reg [A1 22 (.load true 64 (.t 5)),
  A0 (.store 64 (.t 4) (.t 22))])
 (.ret))))))))
def f329 : LF := ⟨c329, 2, 0, 23, [.cell 4 true 64]⟩

/-- (*moot/mootref06.Store).index -/
def c330 : LC := (.seq (.reg [A1 3 (.box (.t 1)),
  A1 4 (.mv (.c (.int .i64 0)))])
 ((.seq ((.seq (.reg [A1 5 (.mv (.c (.int .i64 0)))])
 (.block 0 (.loop ((.seq ((.seq (.reg [A1 6 (.mv (.t 5)),
  A1 7 (.mv (.t 0)),
  A1 8 (.nilc (.t 7)),
  A1 9 (.fadr 0 (.t 8)),
  A1 10 (.load false 1 (.t 9)),
  A1 11 (.len 0 (.t 10)),
  A1 12 (.ari .lss (.t 6) (.t 11))])
 (.cond (.t 12) (.skip) (.exit 0))))
 ((.seq (.block 1 ((.seq (.regd [⟨0, 0, A1 15 (.mv (.t 0))⟩,
  ⟨1, 1, A1 16 (.nilc (.t 15))⟩,
  ⟨2, 3, A1 17 (.fadr 0 (.t 16))⟩,
  ⟨3, 7, A1 18 (.load false 1 (.t 17))⟩,
  ⟨4, 0, A1 19 (.mv (.t 5))⟩,
  ⟨5, 31, A1 20 (.isl 32 (.t 18) (.t 19))⟩,
  ⟨6, 63, A1 21 (.load true 32 (.t 20))⟩,
  ⟨7, 0, A1 22 (.load true 32 (.t 3))⟩,
  ⟨8, 255, A1 23 (.eq false false (.ar 32 1 false .int) (.t 21) (.t 22))⟩])
 (.cond (.t 23) ((.seq (.reg [A1 24 (.mv (.t 5)),
  A1 4 (.mv (.t 24))])
 (.ret))) (.skip)))))
 (.reg [A1 13 (.mv (.t 5)),
  A1 14 (.ari .add (.t 13) (.c (.int .i64 1))),
  A1 5 (.mv (.t 14))])))))))))
 ((.seq (.reg [A1 4 (.mv (.c (.int .i64 (-1))))])
 (.ret))))))
def f330 : LF := ⟨c330, 2, 0, 25, [.tmp 4]⟩

end Mv
namespace Mv
open Go
set_option maxRecDepth 20000
set_option maxHeartbeats 4000000
set_option linter.unusedSimpArgs false

structure OkR (M : Seat) : Prop where
  k73 : chkF M 73 f73 = true
  k218 : chkF M 218 f218 = true
  k219 : chkF M 219 f219 = true
  k329 : chkF M 329 f329 = true
  k330 : chkF M 330 f330 = true

theorem runs_Joined {M : Seat} (ok : OkR M) (a b : Dg) : Runs M 329 [dg a, dg b] [] 0 (fun r H' k' => r = prV (joinP a b) ∧ H' = [] ∧ k' = 0) := by
  refine runs_fr ok.k329 rfl fun x hx => ?_
  refine ex_sound 2000 _ _ _ _ ?_; (simp (maxSteps := 4000000) only [f329, c329, dg, LZ, seval, reduceCtorEq, forall_const])
  refine loop_rule (σ := Nat) (fun i => i ≤ 32) (fun i => fr 23 [(2, .ptr 0 []), (3, .ptr 1 []), (4, .ptr 2 []), (5, .ptr 3 []), (6, .int .i64 i)])
    (fun i => [(0, dg a), (1, dg b), (2, prV Pr.zero), (3, .ar 1 64 fun j => B (if j < i then a.at j else if 32 ≤ j ∧ j < 32 + i then b.at (j - 32) else 0#8))]) (fun _ => 4) (fun i => 32 - i) 0 (by omega) ?_ ?_
  · refine Weak.fr [0, 16, 32, 48] [] hx (by simp only [fr_length]) (by decide) ?_ ?_
    · simp only [LY, seval, reduceCtorEq, implies_true]
    · simp only [dg, prV, Pr.at_zero, LY, seval, reduceCtorEq, implies_true]
      intro j hj
      rw [if_neg (by omega), if_neg (by omega)]
  · intro i hi
    refine ex_sound 2000 _ _ _ _ ?_
    by_cases h32 : i = 32
    · subst h32
      (simp (maxSteps := 4000000) only [prV, LZ, seval, reduceCtorEq, forall_const])
      refine RetS.mk hx [] [] (prV (joinP a b)) [] 0 (by decide) (by simp only [LV, prV, LZ, seval, reduceCtorEq, forall_const]) ?_ trivial ⟨rfl, rfl, rfl⟩
      simp only [LV, prV, LZ, seval, reduceCtorEq, forall_const]
      simp only [prV, LY, seval, reduceCtorEq, implies_true]
      intro j hj
      rw [joinP, Pr.at_mk' _ _ hj]
      by_cases h : j < 32
      · rw [if_pos h, if_pos h]
      · rw [if_neg h, if_neg h, if_pos (by omega)]
    · have d0 : ((i : Int) < 32) = True := eq_true (by omega)
      have w0 : IntKind.i64.wrap ((i : Int) + 1) = ((i + 1 : Nat) : Int) := by rw [wrap_i64 (by omega)]; omega
      have w1 : IntKind.i64.wrap (32 + (i : Int)) = ((32 + i : Nat) : Int) := by rw [wrap_i64 (by omega)]; omega
      have d3 : (32 + i = i) = False := eq_false (by omega)
      (simp (maxSteps := 4000000) only [d0, w0, w1, d3, prV, dg, LZ, seval, reduceCtorEq, forall_const])
      repeat (refine And.intro (by first | omega | exact True.intro | rfl) ?_)
      refine ⟨i + 1, by omega, by omega, ?_⟩
      refine Weak.fr [0, 1, 2, 3] [] hx (by simp only [fr_length]) (by decide) ?_ ?_
      · simp only [LY, seval, reduceCtorEq, implies_true]
      · simp only [dg, prV, Pr.at_zero, LY, seval, reduceCtorEq, implies_true]
        intro j hj
        by_cases e1 : j = 32 + i
        · subst e1
          rw [if_pos rfl, if_neg (by omega), if_pos (by omega), show 32 + i - 32 = i by omega]; simp only [B, LY, seval, reduceCtorEq, implies_true]
        · rw [if_neg e1]
          by_cases e2 : j = i
          · subst e2
            rw [if_pos rfl, if_pos (by omega)]; simp only [B, LY, seval, reduceCtorEq, implies_true]
          · rw [if_neg e2]
            by_cases e3 : j < i
            · rw [if_pos e3, if_pos (by omega)]; simp only [B, LY, seval, reduceCtorEq, implies_true]
            · rw [if_neg e3, if_neg (by omega : ¬ j < i + 1)]
              by_cases e4 : 32 ≤ j ∧ j < 32 + i
              · rw [if_pos e4, if_pos (by omega)]; simp only [B, LY, seval, reduceCtorEq, implies_true]
              · rw [if_neg e4, if_neg (by omega)]; simp only [B, LY, seval, reduceCtorEq, implies_true]

/-- The document's store: itself, its digests, their preimages. -/
def rstV (hs ps : V) (met : Bool) : V := .st 4 (.fcons 0 hs (.fcons 1 ps (.fcons 2 .nils (.fcons 3 (.bool met) .fnil))))

theorem runs_indexN {M : Seat} (ok : OkR M) (h : Dg) (met : Bool) : Runs M 330 [.ptr 0 [], dg h] [(0, rstV .nils .nils met)] 1 (fun r H' k' => r = .int .i64 (-1) ∧ H' = [(0, rstV .nils .nils met)] ∧ k' = 1) := by
  refine runs_fr ok.k330 rfl fun x hx => ?_
  refine ex_sound 2000 _ _ _ _ ?_; (simp (maxSteps := 4000000) only [f330, c330, rstV, LZ, seval, reduceCtorEq, forall_const])
  refine loop_once ?_
  refine ex_sound 2000 _ _ _ _ ?_
  (simp (maxSteps := 4000000) only [LZ, seval, reduceCtorEq, forall_const])
  refine RetS.mk hx [0] [] _ _ _ (by decide) (by (simp only [LV, rstV, LZ, seval, reduceCtorEq, forall_const])) (by ((try simp only [LV, rstV, LZ, seval, reduceCtorEq, forall_const, LY, seval, reduceCtorEq, implies_true]); first | done | exact True.intro | (intros; rfl))) (by ((try simp only [rstV, LY, seval, reduceCtorEq, implies_true]); first | done | exact True.intro | (intros; rfl))) ⟨rfl, rfl, rfl⟩

theorem runs_indexS {M : Seat} (ok : OkR M) (h : Dg) (n : Nat) (hs : Nat → Dg) (met : Bool) (hn : n < 4294967296) (i0 : Nat) (hi0 : i0 ≤ n) (hlow : ∀ j, j < i0 → ¬ hs j = h) (hend : i0 = n ∨ hs i0 = h) :
    Runs M 330 [.ptr 0 [], dg h] [(0, rstV (.sl 1 [] 0 n 32) (.sl 2 [] 0 n 64) met), (1, .ar 32 n fun i => dg (hs i))] 3 (fun r H' k' => r = .int .i64 (if i0 = n then -1 else (i0 : Int)) ∧ H' = [(0, rstV (.sl 1 [] 0 n 32) (.sl 2 [] 0 n 64) met), (1, .ar 32 n fun i => dg (hs i))] ∧ k' = 3) := by
  refine runs_fr ok.k330 rfl fun x hx => ?_
  refine ex_sound 2000 _ _ _ _ ?_; (simp (maxSteps := 4000000) only [f330, c330, rstV, LZ, seval, reduceCtorEq, forall_const])
  refine loop_rule (σ := Nat) (fun i => i ≤ i0) (fun i => fr 25 [(0, .ptr 0 []), (3, .ptr 3 []), (5, .int .i64 i)])
    (fun i => [(0, rstV (.sl 1 [] 0 n 32) (.sl 2 [] 0 n 64) met), (1, .ar 32 n fun i => dg (hs i)), (3, dg h)]) (fun _ => 4) (fun i => i0 - i) 0 (by omega) ?_ ?_
  · refine Weak.fr [0, 1, 2, 3] [] hx (by simp only [fr_length]) (by decide) ?_ ?_
    · simp only [LY, seval, reduceCtorEq, implies_true]
    · simp only [rstV, dg, LY, seval, reduceCtorEq, implies_true]
  · intro i hi
    refine ex_sound 2000 _ _ _ _ ?_
    by_cases hin : i = n
    · subst hin
      have e0 : i0 = i := by omega
      subst e0
      have d0 : ((i0 : Int) < (i0 : Int)) = False := eq_false (by omega)
      rw [if_pos rfl]
      (simp (maxSteps := 4000000) only [rstV, d0, LZ, seval, reduceCtorEq, forall_const])
      refine RetS.mk hx [0, 1, 2] [] _ _ _ (by decide) (by (simp only [LV, rstV, dg, LZ, seval, reduceCtorEq, forall_const])) (by ((try simp only [LV, rstV, dg, LZ, seval, reduceCtorEq, forall_const, LY, seval, reduceCtorEq, implies_true]); first | done | exact True.intro | (intros; rfl))) (by ((try simp only [rstV, dg, LY, seval, reduceCtorEq, implies_true]); first | done | exact True.intro | (intros; rfl))) ⟨rfl, rfl, rfl⟩
    · have d0 : ((i : Int) < (n : Int)) = True := eq_true (by omega)
      have w0 : IntKind.i64.wrap ((i : Int) + 1) = ((i + 1 : Nat) : Int) := by rw [wrap_i64 (by omega)]; omega
      by_cases hf : hs i = h
      · have e0 : i = i0 := by
          rcases Nat.lt_or_ge i i0 with h1 | h1
          · exact absurd hf (hlow i h1)
          · omega
        subst e0
        rw [if_neg hin]
        (simp (maxSteps := 4000000) only [rstV, d0, hf, LZ, seval, reduceCtorEq, forall_const])
        repeat (refine And.intro (by first | omega | exact True.intro | rfl) ?_)
        refine RetS.mk hx [0, 1, 2] [] _ _ _ (by decide) (by (simp only [LV, rstV, dg, LZ, seval, reduceCtorEq, forall_const])) (by ((try simp only [LV, rstV, dg, LZ, seval, reduceCtorEq, forall_const, LY, seval, reduceCtorEq, implies_true]); first | done | exact True.intro | (intros; rfl))) (by ((try simp only [rstV, dg, LY, seval, reduceCtorEq, implies_true]); first | done | exact True.intro | (intros; rfl))) ⟨rfl, rfl, rfl⟩
      · have hlt : i < i0 := by
          rcases Nat.lt_or_ge i i0 with h1 | h1
          · exact h1
          · rcases hend with h2 | h2
            · omega
            · exact absurd (by rw [show i = i0 by omega]; exact h2) hf
        (simp (maxSteps := 4000000) only [rstV, d0, w0, hf, LZ, seval, reduceCtorEq, forall_const])
        repeat (refine And.intro (by first | omega | exact True.intro | rfl) ?_)
        refine ⟨i + 1, by omega, by omega, ?_⟩
        refine Weak.fr [0, 1, 2, 3] [] hx (by simp only [fr_length]) (by decide) ?_ ?_
        · simp only [LY, seval, reduceCtorEq, implies_true]
        · simp only [rstV, dg, LY, seval, reduceCtorEq, implies_true]
end Mv
namespace Mv
open Go
set_option maxRecDepth 20000
set_option maxHeartbeats 4000000
set_option linter.unusedSimpArgs false

def rh (l : List (Dg × Pr)) (i : Nat) : Dg := (l.getD i (Dg.zero, Pr.zero)).1
def rp (l : List (Dg × Pr)) (i : Nat) : Pr := (l.getD i (Dg.zero, Pr.zero)).2
def rsH (l : List (Dg × Pr)) (met : Bool) : Hp := [(0, rstV (.sl 1 [] 0 l.length 32) (.sl 2 [] 0 l.length 64) met), (1, .ar 32 l.length fun i => dg (rh l i)), (2, .ar 64 l.length fun i => prV (rp l i))]
noncomputable def rsum (p : Pr) : Dg := dig (absd (List.replicate 25 0) (pd p.at))
def rix (l : List (Dg × Pr)) (h : Dg) : Nat := l.findIdx fun x => decide (x.1 = h)
theorem rix_le (l : List (Dg × Pr)) (h : Dg) : rix l h ≤ l.length := List.findIdx_le_length
theorem rix_lo (l : List (Dg × Pr)) (h : Dg) (j : Nat) (hj : j < rix l h) : ¬ rh l j = h := by
  have := List.not_of_lt_findIdx hj
  have hl : j < l.length := Nat.lt_of_lt_of_le hj (rix_le l h)
  rw [rh, List.getD_eq_getElem?_getD, List.getElem?_eq_getElem hl]
  simpa using this
theorem rix_hi (l : List (Dg × Pr)) (h : Dg) : rix l h = l.length ∨ rh l (rix l h) = h := by
  rcases Nat.lt_or_ge (rix l h) l.length with hl | hl
  · right
    have := List.findIdx_getElem (w := hl)
    rw [rh, List.getD_eq_getElem?_getD, List.getElem?_eq_getElem hl]
    exact of_decide_eq_true this
  · left; have := rix_le l h; omega
def rsG (l : List (Dg × Pr)) (met : Bool) : Hp := [(0, rstV (.sl 3 [] 0 l.length 32) (.sl 4 [] 0 l.length 64) met), (3, .ar 32 l.length fun i => dg (rh l i)), (4, .ar 64 l.length fun i => prV (rp l i))]
noncomputable def rset (l : List (Dg × Pr)) (p : Pr) : List (Dg × Pr) := l.set (rix l (rsum p)) (rsum p, p)
noncomputable def rmet (l : List (Dg × Pr)) (met : Bool) (p : Pr) : Bool := if rp l (rix l (rsum p)) = p then met else true

theorem runs_rAddN {M : Seat} (okB : OkB M) (ok : OkR M) (p : Pr) (met : Bool) :
    Runs M 219 [.ptr 0 [], prV p] [(0, rstV .nils .nils met)] 1 (fun r H' k' => r = dg (rsum p) ∧ H' = rsH [(rsum p, p)] met ∧ k' = 3) := by
  have hS : Runs M 311 [.lst 1 64 (fun j => B (p.at j))] [] 0 (fun r H' k' => r = dg (rsum p) ∧ H' = [] ∧ k' = 0) := runs_refSum okB p.at
  generalize rsum p = D at *
  refine runs_fr ok.k219 rfl fun x hx => ?_
  refine ex_sound 2000 _ _ _ _ ?_; (simp (maxSteps := 4000000) only [f219, c219, prV, LZ, seval, reduceCtorEq, forall_const])
  refine call_pZ (hS) ?_
  (simp (maxSteps := 4000000) only [dg, LZ, seval, reduceCtorEq, forall_const])
  refine call_mA [0] (runs_indexN ok D met) (by decide) (by rfl) (by ((try simp only [rstV, dg, LY, seval, reduceCtorEq, implies_true]); first | done | exact True.intro | rfl)) (by ((try simp only [rstV, dg, LY, seval, reduceCtorEq, implies_true]); first | done | exact True.intro | rfl)) (by simp only [rstV, dg, LX, implies_true]) (by simp only [rstV, dg, LX, implies_true]) ?_
  (simp (maxSteps := 4000000) only [rstV, dg, prV, LZ, seval, reduceCtorEq, forall_const])
  refine RetS.mk hx [0, 465, 817] [] (dg D) (rsH [(D, p)] met) 3 (by decide) (by simp only [LV, dg, LZ, seval, reduceCtorEq, forall_const]) (by simp only [LV, dg, LZ, seval, reduceCtorEq, forall_const, LY, seval, reduceCtorEq, implies_true]) ?_ ⟨rfl, rfl, rfl⟩
  simp only [rsH, rstV, dg, prV, List.length_cons, List.length_nil, Nat.zero_add, LMS, LY, seval, reduceCtorEq, implies_true]
  refine ⟨fun i hi => ?_, fun i hi => ?_⟩
  all_goals obtain rfl : i = 0 := by omega
  all_goals simp only [if_true, rh, rp, List.getD_cons_zero, LY, seval, reduceCtorEq, implies_true]

theorem rh_app (l : List (Dg × Pr)) (h : Dg) (p : Pr) (i : Nat) (hi : i < l.length + 1) : rh (l ++ [(h, p)]) i = if i < l.length then rh l i else h := by
  by_cases hl : i < l.length
  · rw [if_pos hl, rh, rh, List.getD_eq_getElem?_getD, List.getD_eq_getElem?_getD, List.getElem?_append_left hl]
  · obtain rfl : i = l.length := by omega
    rw [if_neg hl, rh, List.getD_eq_getElem?_getD, List.getElem?_append_right (Nat.le_refl _)]; simp
theorem rp_app (l : List (Dg × Pr)) (h : Dg) (p : Pr) (i : Nat) (hi : i < l.length + 1) : rp (l ++ [(h, p)]) i = if i < l.length then rp l i else p := by
  by_cases hl : i < l.length
  · rw [if_pos hl, rp, rp, List.getD_eq_getElem?_getD, List.getD_eq_getElem?_getD, List.getElem?_append_left hl]
  · obtain rfl : i = l.length := by omega
    rw [if_neg hl, rp, List.getD_eq_getElem?_getD, List.getElem?_append_right (Nat.le_refl _)]; simp
theorem rh_set (l : List (Dg × Pr)) (h : Dg) (p : Pr) (k : Nat) (hk : rh l k = h) (i : Nat) : rh (l.set k (h, p)) i = rh l i := by
  rw [rh, List.getD_eq_getElem?_getD, List.getElem?_set]
  split
  · rename_i e; subst e
    split
    · simp [hk]
    · rename_i h2; rw [rh, List.getD_eq_getElem?_getD, List.getElem?_eq_none (by omega)]
  · rw [rh, List.getD_eq_getElem?_getD]
theorem rp_set (l : List (Dg × Pr)) (h : Dg) (p : Pr) (k : Nat) (i : Nat) (hi : i < l.length) : rp (l.set k (h, p)) i = if i = k then p else rp l i := by
  rw [rp, List.getD_eq_getElem?_getD, List.getElem?_set]
  by_cases e : k = i
  · subst e
    rw [if_pos rfl, if_pos rfl, if_pos hi]; rfl
  · rw [if_neg e, if_neg (Ne.symm e), rp, List.getD_eq_getElem?_getD]

theorem runs_rAddS {M : Seat} (okB : OkB M) (ok : OkR M) (p : Pr) (met : Bool) (l : List (Dg × Pr)) (hl : l.length < 4294967296) (hk : rix l (rsum p) = l.length) :
    Runs M 219 [.ptr 0 [], prV p] (rsH l met) 3 (fun r H' k' => r = dg (rsum p) ∧ H' = rsG (l ++ [(rsum p, p)]) met ∧ k' = 5) := by
  have hS : Runs M 311 [.lst 1 64 (fun j => B (p.at j))] [] 0 (fun r H' k' => r = dg (rsum p) ∧ H' = [] ∧ k' = 0) := runs_refSum okB p.at
  generalize rsum p = D at *
  have hI := runs_indexS ok D l.length (rh l) met hl (rix l D) (rix_le l D) (rix_lo l D) (rix_hi l D)
  simp only [if_pos hk] at hI
  refine runs_fr ok.k219 rfl fun x hx => ?_
  refine ex_sound 2000 _ _ _ _ ?_; (simp (maxSteps := 4000000) only [f219, c219, prV, rsH, rstV, LZ, seval, reduceCtorEq, forall_const])
  refine call_pZ (hS) ?_
  (simp (maxSteps := 4000000) only [dg, LZ, seval, reduceCtorEq, forall_const])
  refine call_mB [0, 1, 2] [0, 1] (hI) (by rfl) (by rfl) (by decide) (by rfl) (by rfl) (by ((try simp only [rstV, dg, LY, seval, reduceCtorEq, implies_true]); first | done | exact True.intro | rfl)) (by ((try simp only [rstV, dg, LY, seval, reduceCtorEq, implies_true]); first | done | exact True.intro | rfl)) (by simp only [rstV, dg, LX, implies_true]) (by simp only [rstV, dg, LX, implies_true]) ?_
  (simp (maxSteps := 4000000) only [rstV, dg, prV, LZ, seval, reduceCtorEq, forall_const])
  repeat (refine And.intro (by first | omega | exact True.intro | rfl) ?_)
  refine RetS.mk hx [0, 1, 2, 467, 819] [] (dg D) (rsG (l ++ [(D, p)]) met) 5 (by decide) (by simp only [LV, dg, LZ, seval, reduceCtorEq, forall_const]) (by simp only [LV, dg, LZ, seval, reduceCtorEq, forall_const, LY, seval, reduceCtorEq, implies_true]) ?_ ⟨rfl, rfl, rfl⟩
  simp only [rsG, rstV, dg, prV, List.length_append, List.length_cons, List.length_nil, Nat.zero_add, LMS, LY, seval, reduceCtorEq, implies_true]
  refine ⟨fun i hi => ?_, fun i hi => ?_⟩
  · rw [rh_app _ _ _ _ hi]
    by_cases h : i < l.length
    · rw [if_pos h, if_pos h]; simp only [LY, seval, reduceCtorEq, implies_true]
    · rw [if_neg h, if_neg h, if_pos (by omega)]; simp only [LY, seval, reduceCtorEq, implies_true]
  · rw [rp_app _ _ _ _ hi]
    by_cases h : i < l.length
    · rw [if_pos h, if_pos h]; simp only [LY, seval, reduceCtorEq, implies_true]
    · rw [if_neg h, if_neg h, if_pos (by omega)]; simp only [LY, seval, reduceCtorEq, implies_true]

theorem runs_rAddO {M : Seat} (okB : OkB M) (ok : OkR M) (p : Pr) (met : Bool) (l : List (Dg × Pr)) (hl : l.length < 4294967296) (hk : ¬ rix l (rsum p) = l.length) :
    Runs M 219 [.ptr 0 [], prV p] (rsH l met) 3 (fun r H' k' => r = dg (rsum p) ∧ H' = rsH (rset l p) (rmet l met p) ∧ k' = 3) := by
  have hS : Runs M 311 [.lst 1 64 (fun j => B (p.at j))] [] 0 (fun r H' k' => r = dg (rsum p) ∧ H' = [] ∧ k' = 0) := runs_refSum okB p.at
  rw [rset, rmet]
  generalize rsum p = D at *
  have hI := runs_indexS ok D l.length (rh l) met hl (rix l D) (rix_le l D) (rix_lo l D) (rix_hi l D)
  have hle := rix_le l D
  have hhi := (rix_hi l D).resolve_left hk
  generalize rix l D = k at *
  simp only [if_neg hk] at hI
  have h0 : ((k : Int) < 0) = False := eq_false (by omega)
  refine runs_fr ok.k219 rfl fun x hx => ?_
  refine ex_sound 2000 _ _ _ _ ?_; (simp (maxSteps := 4000000) only [f219, c219, rsH, rstV, LM, LZ, seval, reduceCtorEq, forall_const])
  refine call_pA (hS) (by ((try simp only [prV, LY, seval, reduceCtorEq, implies_true]); first | done | exact True.intro | rfl)) (by first | rfl | (simp only [LN, LP, V.ren, tup2, tup3])) (by simp only [prV, LX, implies_true]) ?_
  (simp (maxSteps := 4000000) only [dg, LM, LZ, seval, reduceCtorEq, forall_const])
  refine call_mB [0, 1, 2] [0, 1] (hI) (by rfl) (by rfl) (by decide) (by rfl) (by rfl) (by ((try simp only [rstV, dg, LY, seval, reduceCtorEq, implies_true]); first | done | exact True.intro | rfl)) (by ((try simp only [rstV, dg, LY, seval, reduceCtorEq, implies_true]); first | done | exact True.intro | rfl)) (by simp only [rstV, dg, LX, implies_true]) (by simp only [rstV, dg, LX, implies_true]) ?_
  by_cases hp : rp l k = p
  all_goals
    (simp (maxSteps := 4000000) only [rstV, dg, hk, h0, hp, LM, LZ, seval, reduceCtorEq, forall_const])
    repeat (refine And.intro (by first | omega | exact True.intro | rfl) ?_)
  · refine RetS.mk hx [0, 1, 2] [] (dg D) (rsH (l.set k (D, p)) met) 3 (by decide) (by simp only [LV, dg, LZ, seval, reduceCtorEq, forall_const]) (by simp only [LV, dg, LZ, seval, reduceCtorEq, forall_const, LY, seval, reduceCtorEq, implies_true]) ?_ ⟨rfl, rfl, rfl⟩
    simp only [rsH, rstV, dg, List.length_set, rh_set _ _ _ _ hhi, LMS, LY, seval, reduceCtorEq, implies_true]
    intro i hi
    rw [rp_set _ _ _ _ _ hi]
    by_cases h : i = k
    · rw [if_pos h, h, hp]
    · rw [if_neg h]
  · refine RetS.mk hx [0, 1, 2] [] (dg D) (rsH (l.set k (D, p)) true) 3 (by decide) (by simp only [LV, dg, LZ, seval, reduceCtorEq, forall_const]) (by simp only [LV, dg, LZ, seval, reduceCtorEq, forall_const, LY, seval, reduceCtorEq, implies_true]) ?_ ⟨rfl, rfl, rfl⟩
    simp only [rsH, rstV, dg, List.length_set, rh_set _ _ _ _ hhi, LMS, LY, seval, reduceCtorEq, implies_true]
    intro i hi
    rw [rp_set _ _ _ _ _ hi]
    by_cases h : i = k
    · rw [if_pos h, if_pos h]
      simp only [LMS]
    · rw [if_neg h, if_neg h]
      simp only [LMS]

/-- What New has put in. -/
noncomputable def rNew : Nat → List (Dg × Pr) × Bool
  | 0 => ([], false)
  | n + 1 => if rix (rNew n).1 (rsum (joinP (nought n) (nought n))) = (rNew n).1.length then ((rNew n).1 ++ [(rsum (joinP (nought n) (nought n)), joinP (nought n) (nought n))], (rNew n).2) else (rset (rNew n).1 (joinP (nought n) (nought n)), rmet (rNew n).1 (rNew n).2 (joinP (nought n) (nought n)))
theorem rNew_len : ∀ n, (rNew n).1.length ≤ n
  | 0 => Nat.le_refl 0
  | n + 1 => by
    have h := rNew_len n
    rw [rNew]; split
    · simp only [List.length_append, List.length_cons, List.length_nil]; omega
    · simp only [rset, List.length_set]; omega
def zsB : V := .ar 32 17 (fun j => dg (nought j))
noncomputable def rnH (n : Nat) : Hp := if n = 0 then [(0, rstV .nils .nils false), (1, zsB)] else [(0, rstV (.sl 2 [] 0 (rNew n).1.length 32) (.sl 3 [] 0 (rNew n).1.length 64) (rNew n).2), (1, zsB), (2, .ar 32 (rNew n).1.length fun i => dg (rh (rNew n).1 i)), (3, .ar 64 (rNew n).1.length fun i => prV (rp (rNew n).1 i))]

theorem runs_rNew {M : Seat} (okB : OkB M) (ok : OkR M) : Runs M 218 [] [] 0 (fun r H' k' => r = .ptr 0 [] ∧ H' = rsH (rNew 16).1 (rNew 16).2 ∧ k' = 3) := by
  refine runs_fr ok.k218 rfl fun x hx => ?_
  refine ex_sound 2000 _ _ _ _ ?_; (simp (maxSteps := 4000000) only [f218, c218, LZ, seval, reduceCtorEq, forall_const])
  refine call_fA (runs_Zeros okB) (by decide) (by ((try simp only [dg, LY, seval, reduceCtorEq, implies_true]); first | done | exact True.intro | rfl)) (by simp only [dg, LX, implies_true]) (by simp only [dg, LX, implies_true]) ?_
  (simp (maxSteps := 4000000) only [LM, LZ, seval, reduceCtorEq, forall_const])
  refine loop_rule (σ := Nat) (fun n => n ≤ 16) (fun n => fr 23 [(1, .ptr 0 []), (2, .sl 1 [] 0 17 32), (3, .int .i64 n)]) rnH (fun n => if n = 0 then 2 else 4) (fun n => 16 - n) 0 (by omega) ?_ ?_
  · rw [rnH, if_pos rfl]
    refine Weak.fr [32, 64] [] hx (by simp only [fr_length]) (by decide) ?_ ?_
    · simp only [LY, seval, reduceCtorEq, implies_true]
    · simp only [rstV, zsB, dg, LY, seval, reduceCtorEq, implies_true]
  · intro n hn
    refine ex_sound 2000 _ _ _ _ ?_
    by_cases h16 : n = 16
    · subst h16
      rw [rnH, if_neg (by decide), if_neg (by decide)]
      (simp (maxSteps := 4000000) only [rstV, zsB, LZ, seval, reduceCtorEq, forall_const])
      refine RetS.mk hx [0, 2, 3] [] (.ptr 0 []) (rsH (rNew 16).1 (rNew 16).2) 3 (by decide) (by (simp only [LV, LZ, seval, reduceCtorEq, forall_const])) (by ((try simp only [LV, LZ, seval, reduceCtorEq, forall_const, LY, seval, reduceCtorEq, implies_true]); first | done | exact True.intro | (intros; rfl))) ?_ ⟨rfl, rfl, rfl⟩
      simp only [rsH, rstV, dg, LMS, LY, seval, reduceCtorEq, implies_true]
    · have d0 : ((n : Int) < 16) = True := eq_true (by omega)
      have d1 : ((n : Int) < 17) = True := eq_true (by omega)
      have d2 : (0 ≤ (n : Int)) = True := eq_true (by omega)
      have w0 : IntKind.i64.wrap ((n : Int) + 1) = ((n + 1 : Nat) : Int) := by rw [wrap_i64 (by omega)]; omega
      have hlen := rNew_len n
      have e0 : ¬ n + 1 = 0 := by omega
      have wi1 : IntKind.i64.wrap 1 = 1 := rfl
      by_cases hz : n = 0
      · subst hz
        rw [rnH, if_pos rfl, if_pos rfl]
        have hA := runs_rAddN okB ok (joinP (nought 0) (nought 0)) false
        (simp (maxSteps := 4000000) only [rstV, zsB, LZ, seval, reduceCtorEq, forall_const])
        refine opd_pA (runs_Joined ok (nought 0) (nought 0)) (by ((try simp only [LMS, LY, seval, reduceCtorEq, implies_true]); first | done | exact True.intro | rfl)) (by first | rfl | (simp only [LN, LP, V.ren, tup2, tup3])) (by simp only [LMS, LX, implies_true]) ?_
        (simp (maxSteps := 4000000) only [LM, LZ, seval, reduceCtorEq, forall_const])
        refine opd_mA [0] (hA) (by decide) (by rfl) (by ((try simp only [rstV, rsH, dg, LMS, LY, seval, reduceCtorEq, implies_true]); first | done | exact True.intro | rfl)) (by ((try simp only [rstV, rsH, dg, LMS, LY, seval, reduceCtorEq, implies_true]); first | done | exact True.intro | rfl)) (by simp only [rstV, rsH, dg, LMS, LX, implies_true]) (by simp only [rstV, rsH, dg, LMS, LX, implies_true]) ?_
        (simp (maxSteps := 4000000) only [rstV, rsH, dg, LM, wi1, LZ, seval, reduceCtorEq, forall_const])
        refine ⟨0 + 1, by omega, by omega, ?_⟩
        have e1 : rNew (0 + 1) = ([(rsum (joinP (nought 0) (nought 0)), joinP (nought 0) (nought 0))], false) := rfl
        rw [rnH, if_neg e0, if_neg e0, e1]
        refine Weak.fr [0, 1, 370, 371] [] hx (by simp only [fr_length]) (by decide) ?_ ?_
        · simp only [LY, seval, reduceCtorEq, implies_true]
        · simp only [rstV, zsB, dg, LMS, LY, seval, reduceCtorEq, implies_true]
      · rw [rnH, if_neg hz, if_neg hz]
        by_cases hk : rix (rNew n).1 (rsum (joinP (nought n) (nought n))) = (rNew n).1.length
        · have hA := runs_rAddS okB ok (joinP (nought n) (nought n)) (rNew n).2 (rNew n).1 (by omega) hk
          (simp (maxSteps := 4000000) only [rstV, zsB, d0, d1, d2, LZ, seval, reduceCtorEq, forall_const])
          repeat (refine And.intro (by first | omega | exact True.intro | rfl) ?_)
          refine opd_pA (runs_Joined ok (nought n) (nought n)) (by ((try simp only [LMS, LY, seval, reduceCtorEq, implies_true]); first | done | exact True.intro | rfl)) (by first | rfl | (simp only [LN, LP, V.ren, tup2, tup3])) (by simp only [LMS, LX, implies_true]) ?_
          (simp (maxSteps := 4000000) only [LM, LZ, seval, reduceCtorEq, forall_const])
          refine opd_mA [0, 2, 3] (hA) (by decide) (by rfl) (by ((try simp only [rstV, rsH, rsG, dg, LMS, LY, seval, reduceCtorEq, implies_true]); first | done | exact True.intro | rfl)) (by ((try simp only [rstV, rsH, rsG, dg, LMS, LY, seval, reduceCtorEq, implies_true]); first | done | exact True.intro | rfl)) (by simp only [rstV, rsH, rsG, dg, LMS, LX, implies_true]) (by simp only [rstV, rsH, rsG, dg, LMS, LX, implies_true]) ?_
          (simp (maxSteps := 4000000) only [rstV, rsG, dg, LM, w0, LZ, seval, reduceCtorEq, forall_const])
          refine ⟨n + 1, by omega, by omega, ?_⟩
          rw [rnH, if_neg e0, if_neg e0, rNew, if_pos hk]
          refine Weak.fr [0, 1, 372, 373] [] hx (by simp only [fr_length]) (by decide) ?_ ?_
          · simp only [LY, seval, reduceCtorEq, implies_true]
          · simp only [rstV, zsB, dg, LMS, LY, seval, reduceCtorEq, implies_true]
        · have hA := runs_rAddO okB ok (joinP (nought n) (nought n)) (rNew n).2 (rNew n).1 (by omega) hk
          (simp (maxSteps := 4000000) only [rstV, zsB, d0, d1, d2, LZ, seval, reduceCtorEq, forall_const])
          repeat (refine And.intro (by first | omega | exact True.intro | rfl) ?_)
          refine opd_pA (runs_Joined ok (nought n) (nought n)) (by ((try simp only [LMS, LY, seval, reduceCtorEq, implies_true]); first | done | exact True.intro | rfl)) (by first | rfl | (simp only [LN, LP, V.ren, tup2, tup3])) (by simp only [LMS, LX, implies_true]) ?_
          (simp (maxSteps := 4000000) only [LM, LZ, seval, reduceCtorEq, forall_const])
          refine opd_mA [0, 2, 3] (hA) (by decide) (by rfl) (by ((try simp only [rstV, rsH, dg, LMS, LY, seval, reduceCtorEq, implies_true]); first | done | exact True.intro | rfl)) (by ((try simp only [rstV, rsH, dg, LMS, LY, seval, reduceCtorEq, implies_true]); first | done | exact True.intro | rfl)) (by simp only [rstV, rsH, dg, LMS, LX, implies_true]) (by simp only [rstV, rsH, dg, LMS, LX, implies_true]) ?_
          (simp (maxSteps := 4000000) only [rstV, rsH, dg, LM, w0, LZ, seval, reduceCtorEq, forall_const])
          refine ⟨n + 1, by omega, by omega, ?_⟩
          rw [rnH, if_neg e0, if_neg e0, rNew, if_neg hk]
          refine Weak.fr [0, 1, 2, 3] [] hx (by simp only [fr_length]) (by decide) ?_ ?_
          · simp only [LY, seval, reduceCtorEq, implies_true]
          · simp only [rstV, zsB, dg, LMS, LY, seval, reduceCtorEq, implies_true]
/-- The document's store, as blocks from 5. -/
def rs5 (l : List (Dg × Pr)) (met : Bool) : Hp := [(5, rstV (.sl 6 [] 0 l.length 32) (.sl 7 [] 0 l.length 64) met), (6, .ar 32 l.length fun i => dg (rh l i)), (7, .ar 64 l.length fun i => prV (rp l i))]

theorem runs_StoresN {M : Seat} (okA : OkM M) (okS : OkS M) (okB : OkB M) (ok : OkR M) :
    Runs M 73 [.nils] [] 0 (fun r H' k' => r = tup2 (.ptr 0 []) (.ptr 5 []) ∧ H' = stoH' (wNew 16) .nils [] ++ rs5 (rNew 16).1 (rNew 16).2 ∧ k' = 8) := by
  refine runs_fr ok.k73 rfl fun x hx => ?_
  refine ex_sound 2000 _ _ _ _ ?_; (simp (maxSteps := 4000000) only [f73, c73, LZ, seval, reduceCtorEq, forall_const])
  refine call_fA (runs_New okA okS) (by decide) (by ((try simp only [stoH', stoV, kinV, LMS, NoIm_seen, LY, seval, reduceCtorEq, implies_true]); first | done | exact True.intro | rfl)) (by simp only [stoH', stoV, kinV, LMS, NoIm_seen, LX, implies_true]) (by simp only [stoH', stoV, kinV, LMS, NoIm_seen, LX, implies_true]) ?_
  (simp (maxSteps := 4000000) only [stoH', stoV, kinV, ren_seen, LM, LZ, seval, reduceCtorEq, forall_const])
  refine call_fA (runs_rNew okB ok) (by decide) (by ((try simp only [rsH, rstV, dg, LMS, LY, seval, reduceCtorEq, implies_true]); first | done | exact True.intro | rfl)) (by simp only [rsH, rstV, dg, LMS, LX, implies_true]) (by simp only [rsH, rstV, dg, LMS, LX, implies_true]) ?_
  (simp (maxSteps := 4000000) only [stoH', stoV, kinV, ren_seen, rsH, rstV, dg, LM, LZ, seval, reduceCtorEq, forall_const])
  refine loop_once ?_
  refine ex_sound 2000 _ _ _ _ ?_
  (simp (maxSteps := 4000000) only [LZ, seval, reduceCtorEq, forall_const])
  refine RetS.mk hx [32, 33, 34, 35, 36, 48, 49, 50] [] (tup2 (.ptr 0 []) (.ptr 5 [])) (stoH' (wNew 16) .nils [] ++ rs5 (rNew 16).1 (rNew 16).2) 8 (by decide) (by (simp only [LV, LZ, seval, reduceCtorEq, forall_const])) (by ((try simp only [LV, LZ, seval, reduceCtorEq, forall_const, LY, seval, reduceCtorEq, implies_true]); first | done | exact True.intro | (intros; rfl))) ?_ ⟨rfl, rfl, rfl⟩
  all_goals simp only [stoH', stoV, kinV, rs5, rstV, dg, Sim_seen, List.cons_append, List.nil_append, tup2, LTP, LM, LMS, LY, seval, reduceCtorEq, implies_true]
end Mv
