/- The small language: a program's exit and memory, with much fuel. -/
import Derived.Test.YtdenaplelfkecaaDoorW1
import Derived.Test.YtdenaplelfkecaaDoorIl
set_option linter.unusedSimpArgs false
set_option linter.unusedVariables false
namespace Mv
open Go
set_option maxRecDepth 20000
set_option maxHeartbeats 4000000
set_option linter.unusedSimpArgs false

def resJ (s : IrS) : V := .st 3 (.fcons 0 (W s.exit) (.fcons 1 (.sl 0 [] 0 2048 1) (.fcons 2 (.int .i64 s.used) .fnil)))
theorem nim_memI (s : IrS) : NoIm (memI s) = True := eq_true (by simp only [memI, NoIm, W, implies_true])
theorem runs_eval {M : Seat} (ok : OkJ M) (ap : ApT) (hap : ApOK M ap) (P : List Fu) (c : Nat → Nat) (h : RgP P c) (k : Nat) (q : Rs) (L0 : Nat → BitVec 64) (nl0 : Nat)
    (hq : ev ap P (k + 1) (.c 0 []) (s0I 100000) L0 nl0 = some q) (ho : (endS q.s q.v).out = false) :
    Runs M 87 [fuL P, .nils] [] 0 (fun r H' k' => r = tup2 (resJ (endS q.s q.v)) .nili ∧ H' = [(0, memI (endS q.s q.v))] ∧ k' = 1) := by
  refine runs_fr ok.k87 rfl fun x hx => ?_
  have hE := runs_Eval ok.toOkEv ap hap P c h 100000 k (by decide) q _ _ hq ho
  generalize endS q.s q.v = sE at *
  have hz : ((100000 : Nat) : Int) = 100000 := rfl
  simp only [resI, hz] at hE
  refine ex_sound 2000 _ _ _ _ ?_; (simp (maxSteps := 4000000) only [f87, c87, LZ, seval, reduceCtorEq, forall_const])
  refine call_fA (runs_StoresN ok.okA ok.okS ok.okB ok.okR) (by decide) (by ((try simp only [tup2, stoH', stoV, kinV, rs5, rstV, dg, LMS, NoIm_seen, List.cons_append, List.nil_append, LY, seval, reduceCtorEq, implies_true]); first | done | exact True.intro | rfl)) (by simp only [tup2, stoH', stoV, kinV, rs5, rstV, dg, LMS, NoIm_seen, List.cons_append, List.nil_append, LX, implies_true]) (by simp only [tup2, stoH', stoV, kinV, rs5, rstV, dg, LMS, NoIm_seen, List.cons_append, List.nil_append, LX, implies_true]) ?_
  (simp (maxSteps := 4000000) only [tup2, stoH', stoV, kinV, rs5, rstV, dg, List.cons_append, List.nil_append, ren_seen, LM, LZ, seval, reduceCtorEq, forall_const])
  refine call_mB [32] [] (hE) (by rfl) (by rfl) (by decide) (by rfl) (by rfl) (by ((try simp only [svfu, nim_memI, LY, seval, reduceCtorEq, implies_true]); first | done | exact True.intro | rfl)) (by ((try simp only [svfu, nim_memI, LY, seval, reduceCtorEq, implies_true]); first | done | exact True.intro | rfl)) (by simp only [svfu, nim_memI, LX, implies_true]) (by simp only [svfu, nim_memI, LX, implies_true]) ?_
  (simp (maxSteps := 4000000) only [tup2, ren_memI, resJ, LZ, seval, reduceCtorEq, forall_const])
  refine RetS.mk hx [176] [] _ _ _ (by decide) (by (simp only [LV, smem, LZ, seval, reduceCtorEq, forall_const])) (by ((try simp only [LV, smem, LZ, seval, reduceCtorEq, forall_const, LY, seval, reduceCtorEq, implies_true]); first | done | exact True.intro | (intros; rfl))) (by ((try simp only [smem, LY, seval, reduceCtorEq, implies_true]); first | done | exact True.intro | (intros; rfl))) ⟨rfl, rfl, rfl⟩
theorem runs_op {M : Seat} (ok : OkJ M) (op : Int) (n : Nat) : Runs M 86 [.int .i64 op, .sl 0 [] 0 n 3] [] 1 (fun r H' k' => r = .st 3 (.fcons 0 (.int .i64 op) (.fcons 1 (W 0#64) (.fcons 2 (.sl 0 [] 0 n 3) .fnil))) ∧ H' = [] ∧ k' = 1) := by
  refine runs_fr ok.k86 rfl fun x hx => ?_
  refine ex_sound 2000 _ _ _ _ ?_; (simp (maxSteps := 4000000) only [f86, c86, LZ, seval, reduceCtorEq, forall_const])
  exact RetS.mkZ hx [0] ⟨rfl, rfl, rfl⟩
end Mv
