/- The machine: steps that go wrong; jumps. -/
import Derived.Test.YtfoaeafobdamcaaDoorW1
import Derived.Test.YtfoaeafobdamcaaDoorW3
set_option linter.unusedSimpArgs false
set_option linter.unusedVariables false
namespace Mv
open Go
set_option maxRecDepth 20000
set_option maxHeartbeats 4000000
set_option linter.unusedSimpArgs false

theorem runs_StepHalted {M : Seat} (ok : OkV M) (f g : Nat → BitVec 64) (pc xt : BitVec 64) :
    Runs M 70 [.ptr 0 [], .ptr 1 []] [(0, mach f g pc true xt)] 2 (fun r H' k' => r = .nili ∧ H' = [(0, mach f g pc true xt)] ∧ k' = 2) := by
  refine runs_fr ok.k70 rfl fun x hx => ?_
  refine ex_sound 2000 _ _ _ _ ?_; (simp (maxSteps := 4000000) only [f70, c70, mach, LZ, seval, reduceCtorEq, forall_const])
  refine RetS.mk hx [0, 1] [] (.nili) ([(0, mach f g pc true xt)]) 2 (by decide) (by (simp only [LV, LZ, seval, reduceCtorEq, forall_const])) (by ((try simp only [LV, LZ, seval, reduceCtorEq, forall_const, LY, seval, reduceCtorEq, implies_true]); first | done | exact True.intro | (intros; rfl))) ?_ ⟨rfl, rfl, rfl⟩
  all_goals simp only [mach, LY, seval, reduceCtorEq, implies_true]

theorem runs_StepOut {M : Seat} (ok : OkV M) (f g : Nat → BitVec 64) (pc xt : BitVec 64) (hpc : 8192#64 ≤ pc) :
    Runs M 70 [.ptr 0 [], .ptr 1 []] [(0, mach f g pc false xt)] 2 (fun r H' k' => r = .nili ∧ H' = [(0, mach f g pc true wrongW)] ∧ k' = 2) := by
  refine runs_fr ok.k70 rfl fun x hx => ?_
  refine ex_sound 2000 _ _ _ _ ?_; (simp (maxSteps := 4000000) only [f70, c70, mach, eq_true hpc, LZ, seval, reduceCtorEq, forall_const])
  refine call_mA [0] (runs_stop ok f g pc false xt wrongW) (by decide) (by rfl) (by ((try simp only [mach, LY, seval, reduceCtorEq, implies_true]); first | done | exact True.intro | rfl)) (by ((try simp only [mach, LY, seval, reduceCtorEq, implies_true]); first | done | exact True.intro | rfl)) (by simp only [mach, LX, implies_true]) (by simp only [mach, LX, implies_true]) ?_
  (simp (maxSteps := 4000000) only [mach, LZ, seval, reduceCtorEq, forall_const])
  refine RetS.mk hx [0, 1] [] (.nili) ([(0, mach f g pc true wrongW)]) 2 (by decide) (by (simp only [LV, LZ, seval, reduceCtorEq, forall_const])) (by ((try simp only [LV, LZ, seval, reduceCtorEq, forall_const, LY, seval, reduceCtorEq, implies_true]); first | done | exact True.intro | (intros; rfl))) ?_ ⟨rfl, rfl, rfl⟩
  all_goals simp only [mach, LY, seval, reduceCtorEq, implies_true]

theorem runs_StepNot {M : Seat} (ok : OkV M) (f g : Nat → BitVec 64) (pc xt : BitVec 64) (hpc : ¬ 8192#64 ≤ pc) (w : BitVec 64) (hw : f pc.toNat = w) (h : ¬ (pOp w ≤ 35 ∧ w >>> 32 &&& 255#64 = 0#64)) :
    Runs M 70 [.ptr 0 [], .ptr 1 []] [(0, mach f g pc false xt)] 2 (fun r H' k' => r = .nili ∧ H' = [(0, mach f g pc true wrongW)] ∧ k' = 2) := by
  refine runs_fr ok.k70 rfl fun x hx => ?_
  have hp : pc.toNat < 8192 := by rw [BitVec.le_def] at hpc; simpa using hpc
  refine ex_sound 2000 _ _ _ _ ?_; (simp (maxSteps := 4000000) only [f70, c70, mach, hpc, hw, LZ, seval, reduceCtorEq, forall_const])
  repeat (refine And.intro (by first | omega | exact True.intro | rfl) ?_)
  refine opd_pZ (runs_PartsNo ok w h) ?_
  (simp (maxSteps := 4000000) only [LZ, seval, reduceCtorEq, forall_const])
  refine call_mA [0] (runs_stop ok f g pc false xt wrongW) (by decide) (by rfl) (by ((try simp only [mach, LY, seval, reduceCtorEq, implies_true]); first | done | exact True.intro | rfl)) (by ((try simp only [mach, LY, seval, reduceCtorEq, implies_true]); first | done | exact True.intro | rfl)) (by simp only [mach, LX, implies_true]) (by simp only [mach, LX, implies_true]) ?_
  (simp (maxSteps := 4000000) only [mach, LZ, seval, reduceCtorEq, forall_const])
  refine RetS.mk hx [0, 1] [] (.nili) ([(0, mach f g pc true wrongW)]) 2 (by decide) (by (simp only [LV, LZ, seval, reduceCtorEq, forall_const])) (by ((try simp only [LV, LZ, seval, reduceCtorEq, forall_const, LY, seval, reduceCtorEq, implies_true]); first | done | exact True.intro | (intros; rfl))) ?_ ⟨rfl, rfl, rfl⟩
  all_goals simp only [mach, LY, seval, reduceCtorEq, implies_true]

/-- Where a jump leads. -/
def jmp (op : Nat) (f g : Nat → BitVec 64) (pc xt : BitVec 64) (d a : Nat) (to : BitVec 64) : V :=
  if (op = 30 ∧ ¬ g a = 0#64) ∨ (op = 31 ∧ g a = 0#64) then mach f g (pc + 1#64) false xt
  else if 8192#64 ≤ (if op = 33 then g a else to) then mach f g pc true wrongW
  else mach f (if op = 32 then upd g d (pc + 1#64) else g) (if op = 33 then g a else to) false xt

theorem runs_jump {M : Seat} (ok : OkV M) (op : Nat) (ho : op = 29 ∨ op = 30 ∨ op = 31 ∨ op = 32 ∨ op = 33) (f g : Nat → BitVec 64) (pc xt : BitVec 64) (d a : Nat) (hd : d < 16) (ha : a < 16) (to : BitVec 64) :
    Runs M 216 [.ptr 0 [], .int .i64 op, .int .i64 d, .int .i64 a, W to] [(0, mach f g pc false xt)] 1 (fun r H' k' => r = .tup .fnil ∧ H' = [(0, jmp op f g pc xt d a to)] ∧ k' = 1) := by
  refine runs_fr ok.k216 rfl fun x hx => ?_
  by_cases h0 : g a = 0#64 <;> by_cases h1 : 8192#64 ≤ to <;> by_cases h2 : 8192#64 ≤ g a <;> rcases ho with rfl | rfl | rfl | rfl | rfl
  all_goals simp only [jmp, h0, h1, h2, seval, if_true, if_false, true_and, false_and, or_false, not_true_eq_false, not_false_eq_true, false_or]
  all_goals refine ex_sound 2000 _ _ _ _ ?_; (simp (maxSteps := 4000000) only [f216, c216, mach, h0, h1, h2, Int.cast_ofNat_Int, LZ, seval, reduceCtorEq, forall_const])
  all_goals repeat (refine And.intro (by first | omega | exact True.intro | rfl) ?_)
  all_goals try (refine RetS.mk hx [0] [] _ _ _ (by decide) (by (simp only [LV, mach, upd, ite_W, LZ, seval, reduceCtorEq, forall_const])) (by ((try simp only [LV, mach, upd, ite_W, LZ, seval, reduceCtorEq, forall_const, LY, seval, reduceCtorEq, implies_true]); first | done | exact True.intro | (intros; rfl))) (by ((try simp only [mach, upd, ite_W, LY, seval, reduceCtorEq, implies_true]); first | done | exact True.intro | (intros; rfl))) ⟨rfl, rfl, rfl⟩)
  all_goals
    refine call_mA [0] (runs_stop ok f g pc false xt wrongW) (by decide) (by rfl) (by ((try simp only [mach, LY, seval, reduceCtorEq, implies_true]); first | done | exact True.intro | rfl)) (by ((try simp only [mach, LY, seval, reduceCtorEq, implies_true]); first | done | exact True.intro | rfl)) (by simp only [mach, LX, implies_true]) (by simp only [mach, LX, implies_true]) ?_
    (simp (maxSteps := 4000000) only [mach, LZ, seval, reduceCtorEq, forall_const])
    refine RetS.mk hx [0] [] _ _ _ (by decide) (by (simp only [LV, mach, upd, ite_W, LZ, seval, reduceCtorEq, forall_const])) (by ((try simp only [LV, mach, upd, ite_W, LZ, seval, reduceCtorEq, forall_const, LY, seval, reduceCtorEq, implies_true]); first | done | exact True.intro | (intros; rfl))) (by ((try simp only [mach, upd, ite_W, LY, seval, reduceCtorEq, implies_true]); first | done | exact True.intro | (intros; rfl))) ⟨rfl, rfl, rfl⟩

theorem runs_StepJump {M : Seat} (ok : OkV M) (op : Nat) (ho : op = 29 ∨ op = 30 ∨ op = 31 ∨ op = 32 ∨ op = 33) (f g : Nat → BitVec 64) (pc xt : BitVec 64) (hpc : ¬ 8192#64 ≤ pc) (w : BitVec 64) (hw : f pc.toNat = w) (hop : pOp w = op) (h2 : w >>> 32 &&& 255#64 = 0#64) :
    Runs M 70 [.ptr 0 [], .ptr 1 []] [(0, mach f g pc false xt)] 2 (fun r H' k' => r = .nili ∧ H' = [(0, jmp op f g pc xt (pF w 52) (pF w 48) (BitVec.ofInt 64 (pN w)))] ∧ k' = 2) := by
  refine runs_fr ok.k70 rfl fun x hx => ?_
  have hp : pc.toNat < 8192 := by rw [BitVec.le_def] at hpc; simpa using hpc
  have a1 := pF_lt w 52
  have a2 := pF_lt w 48
  have d1 : ((op : Int) = 0) = False := eq_false (by omega)
  have d2 : ((op : Int) < 26) = False := eq_false (by omega)
  have d3 : ((op : Int) = 26) = False := eq_false (by omega)
  have d4 : ((op : Int) = 27) = False := eq_false (by omega)
  have d5 : ((op : Int) = 28) = False := eq_false (by omega)
  have d6 : ((op : Int) < 34) = True := eq_true (by omega)
  refine ex_sound 2000 _ _ _ _ ?_; (simp (maxSteps := 4000000) only [f70, c70, mach, hpc, hw, LZ, seval, reduceCtorEq, forall_const])
  repeat (refine And.intro (by first | omega | exact True.intro | rfl) ?_)
  refine opd_pA (runs_Parts ok w (by omega) h2) (by ((try simp only [partsR, LY, seval, reduceCtorEq, implies_true]); first | done | exact True.intro | rfl)) (by first | rfl | (simp only [LN, LP, V.ren, tup2, tup3])) (by simp only [partsR, LX, implies_true]) ?_
  (simp (maxSteps := 4000000) only [partsR, hop, d1, d2, d3, d4, d5, d6, LZ, seval, reduceCtorEq, forall_const])
  repeat (refine And.intro (by first | omega | exact True.intro | rfl) ?_)
  have hS : ∀ H m z, Sim H m z (jmp op f g pc xt (pF w 52) (pF w 48) (BitVec.ofInt 64 (pN w))) (jmp op f g pc xt (pF w 52) (pF w 48) (BitVec.ofInt 64 (pN w))) := by
    intro H m z
    unfold jmp
    repeat' split
    all_goals simp only [mach, LY, seval, reduceCtorEq, implies_true]
  have hN : NoIm (jmp op f g pc xt (pF w 52) (pF w 48) (BitVec.ofInt 64 (pN w))) := by
    unfold jmp
    repeat' split
    all_goals simp only [mach, NoIm, NoIm_W, implies_true, and_self]
  have hR : ∀ m, (jmp op f g pc xt (pF w 52) (pF w 48) (BitVec.ofInt 64 (pN w))).ren m = jmp op f g pc xt (pF w 52) (pF w 48) (BitVec.ofInt 64 (pN w)) := by
    intro m
    unfold jmp
    repeat' split
    all_goals rfl
  refine call_mA [0] (runs_jump ok op ho f g pc xt (pF w 52) (pF w 48) (by omega) (by omega) (BitVec.ofInt 64 (pN w))) (by decide) (by rfl) (by ((try simp only [mach, hN, LY, seval, reduceCtorEq, implies_true]); first | done | exact True.intro | rfl)) (by ((try simp only [mach, hN, LY, seval, reduceCtorEq, implies_true]); first | done | exact True.intro | rfl)) (by simp only [mach, hN, LX, implies_true]) (by simp only [mach, hN, LX, implies_true]) ?_
  (simp (maxSteps := 4000000) only [hR, LZ, seval, reduceCtorEq, forall_const])
  refine RetS.mk hx [0, 1] [] _ _ _ (by decide) (by (simp only [LV, hS, LZ, seval, reduceCtorEq, forall_const])) (by ((try simp only [LV, hS, LZ, seval, reduceCtorEq, forall_const, LY, seval, reduceCtorEq, implies_true]); first | done | exact True.intro | (intros; rfl))) (by ((try simp only [hS, LY, seval, reduceCtorEq, implies_true]); first | done | exact True.intro | (intros; rfl))) ⟨rfl, rfl, rfl⟩
end Mv
