/- Small functions about stores and bytes. -/
import Derived.Test.YtncipgmjhaiagaaDoorW1
import Derived.Test.YtncipgmjhaiagaaDoorW4
set_option linter.unusedSimpArgs false
set_option linter.unusedVariables false
namespace Mv
open Go
set_option maxRecDepth 20000
set_option maxHeartbeats 4000000
set_option linter.unusedSimpArgs false

structure OkO (M : Seat) : Prop extends OkW M where
  k308 : chkF M 308 f308 = true
  k327 : chkF M 327 f327 = true

/-- A word of eight bytes. -/
def wrd (p : Nat → BitVec 8) : Nat → BitVec 64
  | 0 => 0
  | k + 1 => (wrd p k <<< (8#64).toNat) ||| (p k).setWidth 64

theorem runs_Word {M : Seat} (ok : OkO M) (n : Nat) (hn : 8 ≤ n) (p : Nat → BitVec 8) : Runs M 308 [.lst 1 n (fun j => B (p j))] [] 0 (fun r H' k' => r = W (wrd p 8) ∧ H' = [] ∧ k' = 0) := by
  refine runs_fr ok.k308 rfl fun x hx => ?_
  refine ex_sound 2000 _ _ _ _ ?_; (simp (maxSteps := 4000000) only [f308, c308, LM, LZ, seval, reduceCtorEq, forall_const])
  repeat (refine And.intro (by first | omega | exact True.intro | rfl) ?_)
  refine loop_rule (σ := Nat) (fun i => i ≤ 8) (fun i => fr 20 [(7, .lst 1 8 fun j => B (p j)), (8, .int .i64 8), (9, .int .i64 i), (3, W (wrd p i))]) (fun _ => []) (fun _ => 0) (fun i => 8 - i) 0 (by omega) ?_ ?_
  · refine Weak.fr [] [] hx (by simp only [fr_length]) (by decide) ?_ ?_
    · simp only [wrd, LY, seval, reduceCtorEq, implies_true]
    · trivial
  · intro i hi
    refine ex_sound 2000 _ _ _ _ ?_
    by_cases h8 : i = 8
    · subst h8
      (simp (maxSteps := 4000000) only [LZ, seval, reduceCtorEq, forall_const])
      exact RetS.mkZ hx [] ⟨rfl, rfl, rfl⟩
    · have d0 : ((i : Int) < 8) = True := eq_true (by omega)
      have w0 : IntKind.i64.wrap ((i : Int) + 1) = ((i + 1 : Nat) : Int) := by rw [wrap_i64 (by omega)]; omega
      (simp (maxSteps := 4000000) only [d0, w0, LZ, seval, reduceCtorEq, forall_const])
      repeat (refine And.intro (by first | omega | exact True.intro | rfl) ?_)
      refine ⟨i + 1, by omega, by omega, ?_⟩
      refine Weak.fr [] [] hx (by simp only [fr_length]) (by decide) ?_ ?_
      · simp only [wrd, LY, seval, reduceCtorEq, implies_true]
      · trivial

/-- A word's bytes behind others. -/
def byW (w : BitVec 64) (j : Nat) : BitVec 8 := (w >>> (56 - 8 * j)).setWidth 8
theorem runs_PutB {M : Seat} (hc : chkF M 312 f312 = true) (w : BitVec 64) :
    Runs M 312 [.sl 0 [] 0 8 1, W w] [(0, .ar 1 8 fun _ => B 0#8)] 1 (fun r H' k' => r = .tup .fnil ∧ H' = [(0, .ar 1 8 fun j => B (if j < 8 then byW w j else 0#8))] ∧ k' = 1) := by
  have h := runs_Put hc 8 0 8 (fun _ => 0) (w.toNat : Int) (by omega) (by omega) (by omega)
  have e : (fun j => V.int .u8 (if 0 ≤ j ∧ j < 0 + 8 then byt (w.toNat : Int) (j - 0) else 0)) = (fun j => B (if j < 8 then byW w j else 0#8)) := by
    funext j
    by_cases hj : j < 8
    · rw [if_pos hj, if_pos (by omega)]; exact byt_B w j
    · rw [if_neg hj, if_neg (by omega)]; rfl
  rw [e] at h
  exact h

theorem runs_AddBN {M : Seat} (okA : OkM M) (ok : OkO M) (w : BitVec 64) :
    Runs M 327 [.nils, W w] [] 0 (fun r H' k' => r = .sl 0 [] 0 8 1 ∧ H' = [(0, .ar 1 8 fun j => B (byW w j))] ∧ k' = 1) := by
  refine runs_fr ok.k327 rfl fun x hx => ?_
  refine ex_sound 2000 _ _ _ _ ?_; (simp (maxSteps := 4000000) only [f327, c327, LM, LZ, seval, reduceCtorEq, forall_const])
  repeat (refine And.intro (by first | omega | exact True.intro | rfl) ?_)
  refine call_mZ [16] (runs_PutB okA.k312 w) ?_
  (simp (maxSteps := 4000000) only [LZ, seval, reduceCtorEq, forall_const])
  repeat (refine And.intro (by first | omega | exact True.intro | rfl) ?_)
  refine RetS.mk hx [112] [] (.sl 0 [] 0 8 1) ([(0, .ar 1 8 fun j => B (byW w j))]) 1 (by decide) (by (simp only [LV, LZ, seval, reduceCtorEq, forall_const])) (by ((try simp only [LV, LZ, seval, reduceCtorEq, forall_const, LY, seval, reduceCtorEq, implies_true]); first | done | exact True.intro | (intros; rfl))) ?_ ⟨rfl, rfl, rfl⟩
  simp only [LY, seval, reduceCtorEq, implies_true]
  intro i hi
  rw [if_pos hi]

theorem runs_AddBS {M : Seat} (okA : OkM M) (ok : OkO M) (n : Nat) (hn : n ≤ 64) (p : Nat → BitVec 8) (w : BitVec 64) :
    Runs M 327 [.sl 0 [] 0 n 1, W w] [(0, .ar 1 n (fun j => B (p j)))] 1 (fun r H' k' => r = .sl 1 [] 0 (n + 8) 1 ∧ H' = [(1, .ar 1 (n + 8) fun j => B (if j < n then p j else byW w (j - n)))] ∧ k' = 2) := by
  refine runs_fr ok.k327 rfl fun x hx => ?_
  refine ex_sound 2000 _ _ _ _ ?_; (simp (maxSteps := 4000000) only [f327, c327, LM, LZ, seval, reduceCtorEq, forall_const])
  repeat (refine And.intro (by first | omega | exact True.intro | rfl) ?_)
  refine call_mZ [17] (runs_PutB okA.k312 w) ?_
  (simp (maxSteps := 4000000) only [LZ, seval, reduceCtorEq, forall_const])
  repeat (refine And.intro (by first | omega | exact True.intro | rfl) ?_)
  refine RetS.mk hx [0, 113] [] (.sl 1 [] 0 (n + 8) 1) ([(1, .ar 1 (n + 8) fun j => B (if j < n then p j else byW w (j - n)))]) 2 (by decide) (by (simp only [LV, LZ, seval, reduceCtorEq, forall_const])) (by ((try simp only [LV, LZ, seval, reduceCtorEq, forall_const, LY, seval, reduceCtorEq, implies_true]); first | done | exact True.intro | (intros; rfl))) ?_ ⟨rfl, rfl, rfl⟩
  simp only [LY, seval, reduceCtorEq, implies_true]
  intro i hi
  by_cases h : i < n
  · rw [if_pos h, if_pos h]; simp only [B, LY, seval, reduceCtorEq, implies_true]
  · rw [if_neg h, if_neg h, if_pos (by omega)]; simp only [B, LY, seval, reduceCtorEq, implies_true]
end Mv
namespace Mv
open Go
set_option maxRecDepth 20000
set_option maxHeartbeats 4000000
set_option linter.unusedSimpArgs false

/-- The bytes of words. -/
def byWs (f : Nat → BitVec 64) (j : Nat) : BitVec 8 := byW (f (j / 8)) (j % 8)

end Mv
