/- An error's number and place. -/
import Derived.Test.YtfoaeafobdamcaaDoorW1
import Derived.Test.YtfoaeafobdamcaaDoorMwCi
set_option linter.unusedSimpArgs false
set_option linter.unusedVariables false
namespace Mv
open Go
set_option maxRecDepth 20000
set_option maxHeartbeats 4000000
set_option linter.unusedSimpArgs false

/-- An error of the program's: a number. -/
abbrev erN (a : Int) : V := .ifc 74 (.int .i64 a)
structure OkN (M : Seat) : Prop where
  k80 : chkF M 80 f80 = true
  k140 : chkF M 140 f140 = true
  as1 : ∀ a b : Int, Runs M 93 [erN a, .ifc 394 (.ptr 0 [])] [(0, .int .i64 b)] 1 (fun r H' k' => r = .bool true ∧ H' = [(0, .int .i64 a)] ∧ k' = 1)
  as2 : ∀ a : Int, Runs M 93 [erN a, .ifc 147 (.ptr 0 [])] [(0, .nilp)] 1 (fun r H' k' => r = .bool false ∧ H' = [(0, .nilp)] ∧ k' = 1)

theorem runs_WhyNil {M : Seat} (ok : OkN M) : Runs M 140 [.nili] [] 0 (fun r H' k' => r = tup2 (.int .i64 0) (.int .i64 (-1)) ∧ H' = [] ∧ k' = 0) := by
  refine runs_fr ok.k140 rfl fun x hx => ?_
  refine ex_sound 2000 _ _ _ _ ?_; (simp (maxSteps := 4000000) only [f140, c140, LZ, seval, reduceCtorEq, forall_const])
  exact RetS.mkZ hx [] ⟨rfl, rfl, rfl⟩

theorem runs_WhyNum {M : Seat} (ok : OkN M) (a : Int) : Runs M 140 [erN a] [] 0 (fun r H' k' => r = tup2 (.int .i64 a) (.int .i64 (-1)) ∧ H' = [] ∧ k' = 0) := by
  refine runs_fr ok.k140 rfl fun x hx => ?_
  refine ex_sound 2000 _ _ _ _ ?_; (simp (maxSteps := 4000000) only [f140, c140, LZ, seval, reduceCtorEq, forall_const])
  refine call_mZ [64] (ok.as1 a 0) ?_
  (simp (maxSteps := 4000000) only [LZ, seval, reduceCtorEq, forall_const])
  refine call_mZ [144] (ok.as2 a) ?_
  (simp (maxSteps := 4000000) only [LZ, seval, reduceCtorEq, forall_const])
  exact RetS.mkZ hx [] ⟨rfl, rfl, rfl⟩

theorem runs_numNil {M : Seat} (ok : OkN M) : Runs M 80 [.nili] [] 0 (fun r H' k' => r = .int .i64 0 ∧ H' = [] ∧ k' = 0) := by
  refine runs_fr ok.k80 rfl fun x hx => ?_
  refine ex_sound 2000 _ _ _ _ ?_; (simp (maxSteps := 4000000) only [f80, c80, LZ, seval, reduceCtorEq, forall_const])
  refine call_pZ (runs_WhyNil ok) ?_
  (simp (maxSteps := 4000000) only [tup2, LZ, seval, reduceCtorEq, forall_const])
  exact RetS.mkZ hx [] ⟨rfl, rfl, rfl⟩
theorem runs_numNum {M : Seat} (ok : OkN M) (a : Int) : Runs M 80 [erN a] [] 0 (fun r H' k' => r = .int .i64 a ∧ H' = [] ∧ k' = 0) := by
  refine runs_fr ok.k80 rfl fun x hx => ?_
  refine ex_sound 2000 _ _ _ _ ?_; (simp (maxSteps := 4000000) only [f80, c80, LZ, seval, reduceCtorEq, forall_const])
  refine call_pZ (runs_WhyNum ok a) ?_
  (simp (maxSteps := 4000000) only [tup2, LZ, seval, reduceCtorEq, forall_const])
  exact RetS.mkZ hx [] ⟨rfl, rfl, rfl⟩
end Mv
