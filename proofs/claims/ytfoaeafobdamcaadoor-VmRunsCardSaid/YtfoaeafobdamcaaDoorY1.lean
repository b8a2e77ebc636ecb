/- A step that asks no store. -/
import Derived.Test.YtfoaeafobdamcaaDoorW1
import Derived.Test.YtfoaeafobdamcaaDoorX2
import Derived.Test.YtfoaeafobdamcaaDoorW5
import Derived.Test.YtfoaeafobdamcaaDoorW6
import Derived.Test.YtfoaeafobdamcaaDoorW7
set_option linter.unusedSimpArgs false
set_option linter.unusedVariables false
namespace Mv
open Go
set_option maxRecDepth 20000
set_option maxHeartbeats 4000000
set_option linter.unusedSimpArgs false

theorem runs_StepApply {M : Seat} (ok : OkV M) (okP : OkP M) (f g : Nat → BitVec 64) (pc xt : BitVec 64) (hpc : ¬ 8192#64 ≤ pc) (w : BitVec 64) (hw : f pc.toNat = w) (op : Nat) (h1 : 1 ≤ op) (h25 : op ≤ 25) (hop : pOp w = op) (h2 : w >>> 32 &&& 255#64 = 0#64) :
    ∃ v, Runs M 70 [.ptr 0 [], .ptr 1 []] [(0, mach f g pc false xt)] 2 (fun r H' k' => r = .nili ∧ H' = [(0, mach f (upd g (pF w 52) v) (pc + 1#64) false xt)] ∧ k' = 2) := by
  obtain ⟨v, hv⟩ := ex_Apply okP op h1 h25 (g (pF w 48)) (g (pF w 44)) (g (pF w 40))
  refine ⟨v, runs_fr ok.k70 rfl fun x hx => ?_⟩
  have hp : pc.toNat < 8192 := by rw [BitVec.le_def] at hpc; simpa using hpc
  have a1 := pF_lt w 52
  have a2 := pF_lt w 48
  have a3 := pF_lt w 44
  have a4 := pF_lt w 40
  have d1 : ((op : Int) = 0) = False := eq_false (by omega)
  have d2 : ((op : Int) < 26) = True := eq_true (by omega)
  refine ex_sound 2000 _ _ _ _ ?_; (simp (maxSteps := 4000000) only [f70, c70, mach, hpc, hw, LZ, seval, reduceCtorEq, forall_const])
  repeat (refine And.intro (by first | omega | exact True.intro | rfl) ?_)
  refine opd_pA (runs_Parts ok w (by omega) h2) (by ((try simp only [partsR, LY, seval, reduceCtorEq, implies_true]); first | done | exact True.intro | rfl)) (by first | rfl | (simp only [LN, LP, V.ren, tup2, tup3])) (by simp only [partsR, LX, implies_true]) ?_
  (simp (maxSteps := 4000000) only [partsR, hop, d1, d2, LZ, seval, reduceCtorEq, forall_const])
  repeat (refine And.intro (by first | omega | exact True.intro | rfl) ?_)
  refine opd_pZ (hv) ?_
  (simp (maxSteps := 4000000) only [tup2, LZ, seval, reduceCtorEq, forall_const])
  repeat (refine And.intro (by first | omega | exact True.intro | rfl) ?_)
  refine RetS.mk hx [0, 1] [] _ _ _ (by decide) (by (simp only [LV, mach, upd, ite_W, LZ, seval, reduceCtorEq, forall_const])) (by ((try simp only [LV, mach, upd, ite_W, LZ, seval, reduceCtorEq, forall_const, LY, seval, reduceCtorEq, implies_true]); first | done | exact True.intro | (intros; rfl))) (by ((try simp only [mach, upd, ite_W, LY, seval, reduceCtorEq, implies_true]); first | done | exact True.intro | (intros; rfl))) ⟨rfl, rfl, rfl⟩

/-- Are n words from a place on in the memory? -/
def wi (a n : BitVec 64) : Bool := decide (a ≤ 8192#64) && decide (n ≤ 8192#64 - a)

theorem runs_oracleW34 {M : Seat} (ok : OkO M) (f g : Nat → BitVec 64) (pc xt : BitVec 64) (a b : BitVec 64) (h : (wi a 8#64 && wi b 4#64) = false) :
    Runs M 217 [.ptr 0 [], .ptr 1 [], .int .i64 34, W a, W b] [(0, mach f g pc false xt)] 2 (fun r H' k' => r = .bool false ∧ H' = [(0, mach f g pc true wrongW)] ∧ k' = 2) := by
  refine runs_fr ok.k217 rfl fun x hx => ?_
  cases h1 : wi a 8#64 with
  | false =>
    unfold wi at h1
    refine ex_sound 2000 _ _ _ _ ?_; (simp (maxSteps := 4000000) only [f217, c217, mach, LZ, seval, reduceCtorEq, forall_const])
    refine call_pZ (runs_within ok a 8#64) ?_
    (simp (maxSteps := 4000000) only [h1, LZ, seval, reduceCtorEq, forall_const])
    refine call_mA [0] (runs_stop ok.toOkV f g pc false xt wrongW) (by decide) (by rfl) (by ((try simp only [mach, LY, seval, reduceCtorEq, implies_true]); first | done | exact True.intro | rfl)) (by ((try simp only [mach, LY, seval, reduceCtorEq, implies_true]); first | done | exact True.intro | rfl)) (by simp only [mach, LX, implies_true]) (by simp only [mach, LX, implies_true]) ?_
    (simp (maxSteps := 4000000) only [mach, LZ, seval, reduceCtorEq, forall_const])
    refine RetS.mk hx [0, 1] [] _ _ _ (by decide) (by (simp only [LV, mach, LZ, seval, reduceCtorEq, forall_const])) (by ((try simp only [LV, mach, LZ, seval, reduceCtorEq, forall_const, LY, seval, reduceCtorEq, implies_true]); first | done | exact True.intro | (intros; rfl))) (by ((try simp only [mach, LY, seval, reduceCtorEq, implies_true]); first | done | exact True.intro | (intros; rfl))) ⟨rfl, rfl, rfl⟩
  | true =>
    rw [h1, Bool.true_and] at h
    unfold wi at h1 h
    refine ex_sound 2000 _ _ _ _ ?_; (simp (maxSteps := 4000000) only [f217, c217, mach, LZ, seval, reduceCtorEq, forall_const])
    refine call_pZ (runs_within ok a 8#64) ?_
    (simp (maxSteps := 4000000) only [h1, LZ, seval, reduceCtorEq, forall_const])
    refine call_pZ (runs_within ok b 4#64) ?_
    (simp (maxSteps := 4000000) only [h, LZ, seval, reduceCtorEq, forall_const])
    refine call_mA [0] (runs_stop ok.toOkV f g pc false xt wrongW) (by decide) (by rfl) (by ((try simp only [mach, LY, seval, reduceCtorEq, implies_true]); first | done | exact True.intro | rfl)) (by ((try simp only [mach, LY, seval, reduceCtorEq, implies_true]); first | done | exact True.intro | rfl)) (by simp only [mach, LX, implies_true]) (by simp only [mach, LX, implies_true]) ?_
    (simp (maxSteps := 4000000) only [mach, LZ, seval, reduceCtorEq, forall_const])
    refine RetS.mk hx [0, 1] [] _ _ _ (by decide) (by (simp only [LV, mach, LZ, seval, reduceCtorEq, forall_const])) (by ((try simp only [LV, mach, LZ, seval, reduceCtorEq, forall_const, LY, seval, reduceCtorEq, implies_true]); first | done | exact True.intro | (intros; rfl))) (by ((try simp only [mach, LY, seval, reduceCtorEq, implies_true]); first | done | exact True.intro | (intros; rfl))) ⟨rfl, rfl, rfl⟩

theorem runs_StepAskW34 {M : Seat} (ok : OkO M) (f g : Nat → BitVec 64) (pc xt : BitVec 64) (hpc : ¬ 8192#64 ≤ pc) (w : BitVec 64) (hw : f pc.toNat = w) (hop : pOp w = 34) (h2 : w >>> 32 &&& 255#64 = 0#64) (h : (wi (g (pF w 48)) 8#64 && wi (g (pF w 44)) 4#64) = false) :
    Runs M 70 [.ptr 0 [], .ptr 1 []] [(0, mach f g pc false xt)] 2 (fun r H' k' => r = .nili ∧ H' = [(0, mach f g pc true wrongW)] ∧ k' = 2) := by
  refine runs_fr ok.k70 rfl fun x hx => ?_
  have hp : pc.toNat < 8192 := by rw [BitVec.le_def] at hpc; simpa using hpc
  have a1 := pF_lt w 52
  have a2 := pF_lt w 48
  have a3 := pF_lt w 44
  refine ex_sound 2000 _ _ _ _ ?_; (simp (maxSteps := 4000000) only [f70, c70, mach, hpc, hw, LZ, seval, reduceCtorEq, forall_const])
  repeat (refine And.intro (by first | omega | exact True.intro | rfl) ?_)
  refine opd_pA (runs_Parts ok.toOkV w (by omega) h2) (by ((try simp only [partsR, LY, seval, reduceCtorEq, implies_true]); first | done | exact True.intro | rfl)) (by first | rfl | (simp only [LN, LP, V.ren, tup2, tup3])) (by simp only [partsR, LX, implies_true]) ?_
  (simp (maxSteps := 4000000) only [partsR, hop, LZ, seval, reduceCtorEq, forall_const])
  repeat (refine And.intro (by first | omega | exact True.intro | rfl) ?_)
  refine opd_mB [0, 1] [0] (runs_oracleW34 ok f g pc xt _ _ h) (by rfl) (by rfl) (by decide) (by rfl) (by rfl) (by ((try simp only [mach, LY, seval, reduceCtorEq, implies_true]); first | done | exact True.intro | rfl)) (by ((try simp only [mach, LY, seval, reduceCtorEq, implies_true]); first | done | exact True.intro | rfl)) (by simp only [mach, LX, implies_true]) (by simp only [mach, LX, implies_true]) ?_
  (simp (maxSteps := 4000000) only [mach, LZ, seval, reduceCtorEq, forall_const])
  repeat (refine And.intro (by first | omega | exact True.intro | rfl) ?_)
  refine RetS.mk hx [0, 1] [] _ _ _ (by decide) (by (simp only [LV, mach, LZ, seval, reduceCtorEq, forall_const])) (by ((try simp only [LV, mach, LZ, seval, reduceCtorEq, forall_const, LY, seval, reduceCtorEq, implies_true]); first | done | exact True.intro | (intros; rfl))) (by ((try simp only [mach, LY, seval, reduceCtorEq, implies_true]); first | done | exact True.intro | (intros; rfl))) ⟨rfl, rfl, rfl⟩
theorem runs_oracleW35 {M : Seat} (ok : OkO M) (f g : Nat → BitVec 64) (pc xt : BitVec 64) (a b : BitVec 64) (h : (wi a 4#64 && wi b 8#64) = false) :
    Runs M 217 [.ptr 0 [], .ptr 1 [], .int .i64 35, W a, W b] [(0, mach f g pc false xt)] 2 (fun r H' k' => r = .bool false ∧ H' = [(0, mach f g pc true wrongW)] ∧ k' = 2) := by
  refine runs_fr ok.k217 rfl fun x hx => ?_
  cases h1 : wi a 4#64 with
  | false =>
    unfold wi at h1
    refine ex_sound 2000 _ _ _ _ ?_; (simp (maxSteps := 4000000) only [f217, c217, mach, LZ, seval, reduceCtorEq, forall_const])
    refine call_pZ (runs_within ok a 4#64) ?_
    (simp (maxSteps := 4000000) only [h1, LZ, seval, reduceCtorEq, forall_const])
    refine call_mA [0] (runs_stop ok.toOkV f g pc false xt wrongW) (by decide) (by rfl) (by ((try simp only [mach, LY, seval, reduceCtorEq, implies_true]); first | done | exact True.intro | rfl)) (by ((try simp only [mach, LY, seval, reduceCtorEq, implies_true]); first | done | exact True.intro | rfl)) (by simp only [mach, LX, implies_true]) (by simp only [mach, LX, implies_true]) ?_
    (simp (maxSteps := 4000000) only [mach, LZ, seval, reduceCtorEq, forall_const])
    refine RetS.mk hx [0, 1] [] _ _ _ (by decide) (by (simp only [LV, mach, LZ, seval, reduceCtorEq, forall_const])) (by ((try simp only [LV, mach, LZ, seval, reduceCtorEq, forall_const, LY, seval, reduceCtorEq, implies_true]); first | done | exact True.intro | (intros; rfl))) (by ((try simp only [mach, LY, seval, reduceCtorEq, implies_true]); first | done | exact True.intro | (intros; rfl))) ⟨rfl, rfl, rfl⟩
  | true =>
    rw [h1, Bool.true_and] at h
    unfold wi at h1 h
    refine ex_sound 2000 _ _ _ _ ?_; (simp (maxSteps := 4000000) only [f217, c217, mach, LZ, seval, reduceCtorEq, forall_const])
    refine call_pZ (runs_within ok a 4#64) ?_
    (simp (maxSteps := 4000000) only [h1, LZ, seval, reduceCtorEq, forall_const])
    refine call_pZ (runs_within ok b 8#64) ?_
    (simp (maxSteps := 4000000) only [h, LZ, seval, reduceCtorEq, forall_const])
    refine call_mA [0] (runs_stop ok.toOkV f g pc false xt wrongW) (by decide) (by rfl) (by ((try simp only [mach, LY, seval, reduceCtorEq, implies_true]); first | done | exact True.intro | rfl)) (by ((try simp only [mach, LY, seval, reduceCtorEq, implies_true]); first | done | exact True.intro | rfl)) (by simp only [mach, LX, implies_true]) (by simp only [mach, LX, implies_true]) ?_
    (simp (maxSteps := 4000000) only [mach, LZ, seval, reduceCtorEq, forall_const])
    refine RetS.mk hx [0, 1] [] _ _ _ (by decide) (by (simp only [LV, mach, LZ, seval, reduceCtorEq, forall_const])) (by ((try simp only [LV, mach, LZ, seval, reduceCtorEq, forall_const, LY, seval, reduceCtorEq, implies_true]); first | done | exact True.intro | (intros; rfl))) (by ((try simp only [mach, LY, seval, reduceCtorEq, implies_true]); first | done | exact True.intro | (intros; rfl))) ⟨rfl, rfl, rfl⟩

theorem runs_StepAskW35 {M : Seat} (ok : OkO M) (f g : Nat → BitVec 64) (pc xt : BitVec 64) (hpc : ¬ 8192#64 ≤ pc) (w : BitVec 64) (hw : f pc.toNat = w) (hop : pOp w = 35) (h2 : w >>> 32 &&& 255#64 = 0#64) (h : (wi (g (pF w 48)) 4#64 && wi (g (pF w 44)) 8#64) = false) :
    Runs M 70 [.ptr 0 [], .ptr 1 []] [(0, mach f g pc false xt)] 2 (fun r H' k' => r = .nili ∧ H' = [(0, mach f g pc true wrongW)] ∧ k' = 2) := by
  refine runs_fr ok.k70 rfl fun x hx => ?_
  have hp : pc.toNat < 8192 := by rw [BitVec.le_def] at hpc; simpa using hpc
  have a1 := pF_lt w 52
  have a2 := pF_lt w 48
  have a3 := pF_lt w 44
  refine ex_sound 2000 _ _ _ _ ?_; (simp (maxSteps := 4000000) only [f70, c70, mach, hpc, hw, LZ, seval, reduceCtorEq, forall_const])
  repeat (refine And.intro (by first | omega | exact True.intro | rfl) ?_)
  refine opd_pA (runs_Parts ok.toOkV w (by omega) h2) (by ((try simp only [partsR, LY, seval, reduceCtorEq, implies_true]); first | done | exact True.intro | rfl)) (by first | rfl | (simp only [LN, LP, V.ren, tup2, tup3])) (by simp only [partsR, LX, implies_true]) ?_
  (simp (maxSteps := 4000000) only [partsR, hop, LZ, seval, reduceCtorEq, forall_const])
  repeat (refine And.intro (by first | omega | exact True.intro | rfl) ?_)
  refine opd_mB [0, 1] [0] (runs_oracleW35 ok f g pc xt _ _ h) (by rfl) (by rfl) (by decide) (by rfl) (by rfl) (by ((try simp only [mach, LY, seval, reduceCtorEq, implies_true]); first | done | exact True.intro | rfl)) (by ((try simp only [mach, LY, seval, reduceCtorEq, implies_true]); first | done | exact True.intro | rfl)) (by simp only [mach, LX, implies_true]) (by simp only [mach, LX, implies_true]) ?_
  (simp (maxSteps := 4000000) only [mach, LZ, seval, reduceCtorEq, forall_const])
  repeat (refine And.intro (by first | omega | exact True.intro | rfl) ?_)
  refine RetS.mk hx [0, 1] [] _ _ _ (by decide) (by (simp only [LV, mach, LZ, seval, reduceCtorEq, forall_const])) (by ((try simp only [LV, mach, LZ, seval, reduceCtorEq, forall_const, LY, seval, reduceCtorEq, implies_true]); first | done | exact True.intro | (intros; rfl))) (by ((try simp only [mach, LY, seval, reduceCtorEq, implies_true]); first | done | exact True.intro | (intros; rfl))) ⟨rfl, rfl, rfl⟩

/-- Does the step ask the store? -/
def asks (m : Mc) : Prop := m.hl = false ∧ ¬ 8192#64 ≤ m.pc ∧ m.f m.pc.toNat >>> 32 &&& 255#64 = 0#64 ∧
  ((pOp (m.f m.pc.toNat) = 34 ∧ (wi (m.g (pF (m.f m.pc.toNat) 48)) 8#64 && wi (m.g (pF (m.f m.pc.toNat) 44)) 4#64) = true) ∨ (pOp (m.f m.pc.toNat) = 35 ∧ (wi (m.g (pF (m.f m.pc.toNat) 48)) 4#64 && wi (m.g (pF (m.f m.pc.toNat) 44)) 8#64) = true))

theorem jmp_ex (op : Nat) (f g : Nat → BitVec 64) (pc xt : BitVec 64) (d a : Nat) (to : BitVec 64) : ∃ m : Mc, jmp op f g pc xt d a to = m.v := by
  unfold jmp
  repeat' split
  all_goals exact ⟨⟨_, _, _, _, _⟩, rfl⟩

theorem ex_StepM {M : Seat} (ok : OkO M) (okP : OkP M) (m : Mc) (h : ¬ asks m) : ∃ m', StepTo M m m' := by
  obtain ⟨f, g, pc, hl, xt⟩ := m
  unfold StepTo
  cases hl with
  | true => exact ⟨⟨f, g, pc, true, xt⟩, runs_StepHalted ok.toOkV f g pc xt⟩
  | false =>
    show ∃ m' : Mc, Runs M 70 [.ptr 0 [], .ptr 1 []] [(0, mach f g pc false xt)] 2 (fun r H' k' => r = .nili ∧ H' = [(0, m'.v)] ∧ k' = 2)
    by_cases hpc : 8192#64 ≤ pc
    · exact ⟨⟨f, g, pc, true, wrongW⟩, runs_StepOut ok.toOkV f g pc xt hpc⟩
    · by_cases hn : pOp (f pc.toNat) ≤ 35 ∧ f pc.toNat >>> 32 &&& 255#64 = 0#64
      · obtain ⟨h35, h2⟩ := hn
        have hj : ∀ op, (Runs M 70 [.ptr 0 [], .ptr 1 []] [(0, mach f g pc false xt)] 2 (fun r H' k' => r = .nili ∧ H' = [(0, jmp op f g pc xt (pF (f pc.toNat) 52) (pF (f pc.toNat) 48) (BitVec.ofInt 64 (pN (f pc.toNat))))] ∧ k' = 2)) →
            ∃ m' : Mc, Runs M 70 [.ptr 0 [], .ptr 1 []] [(0, mach f g pc false xt)] 2 (fun r H' k' => r = .nili ∧ H' = [(0, m'.v)] ∧ k' = 2) := fun op hr => by
          obtain ⟨m', hm⟩ := jmp_ex op f g pc xt (pF (f pc.toNat) 52) (pF (f pc.toNat) 48) (BitVec.ofInt 64 (pN (f pc.toNat)))
          rw [hm] at hr
          exact ⟨m', hr⟩
        by_cases q0 : pOp (f pc.toNat) = 0
        · exact ⟨⟨f, g, pc, true, _⟩, runs_StepHalt ok.toOkV f g pc xt hpc _ rfl q0 h2⟩
        by_cases q1 : pOp (f pc.toNat) ≤ 25
        · obtain ⟨v, hv⟩ := runs_StepApply ok.toOkV okP f g pc xt hpc _ rfl (pOp (f pc.toNat)) (by omega) q1 rfl h2
          exact ⟨⟨f, _, _, false, xt⟩, hv⟩
        by_cases q2 : pOp (f pc.toNat) = 26
        · exact ⟨⟨f, _, _, false, xt⟩, runs_StepLi ok.toOkV f g pc xt hpc _ rfl q2 h2⟩
        by_cases q3 : pOp (f pc.toNat) = 27
        · by_cases hwh : 8192#64 ≤ g (pF (f pc.toNat) 48) + BitVec.ofInt 64 (pN (f pc.toNat))
          · exact ⟨⟨f, g, pc, true, wrongW⟩, runs_StepLoadWrong ok.toOkV f g pc xt hpc _ rfl q3 h2 _ rfl hwh⟩
          · exact ⟨⟨f, _, _, false, xt⟩, runs_StepLoad ok.toOkV f g pc xt hpc _ rfl q3 h2 _ rfl hwh⟩
        by_cases q4 : pOp (f pc.toNat) = 28
        · by_cases hwh : 8192#64 ≤ g (pF (f pc.toNat) 48) + BitVec.ofInt 64 (pN (f pc.toNat))
          · exact ⟨⟨f, g, pc, true, wrongW⟩, runs_StepStoreWrong ok.toOkV f g pc xt hpc _ rfl q4 h2 _ rfl hwh⟩
          · exact ⟨⟨_, g, _, false, xt⟩, runs_StepStore ok.toOkV f g pc xt hpc _ rfl q4 h2 _ rfl hwh⟩
        by_cases q5 : pOp (f pc.toNat) = 29
        · exact hj 29 (runs_StepJump ok.toOkV 29 (by decide) f g pc xt hpc _ rfl q5 h2)
        by_cases q6 : pOp (f pc.toNat) = 30
        · exact hj 30 (runs_StepJump ok.toOkV 30 (by decide) f g pc xt hpc _ rfl q6 h2)
        by_cases q7 : pOp (f pc.toNat) = 31
        · exact hj 31 (runs_StepJump ok.toOkV 31 (by decide) f g pc xt hpc _ rfl q7 h2)
        by_cases q8 : pOp (f pc.toNat) = 32
        · exact hj 32 (runs_StepJump ok.toOkV 32 (by decide) f g pc xt hpc _ rfl q8 h2)
        by_cases q9 : pOp (f pc.toNat) = 33
        · exact hj 33 (runs_StepJump ok.toOkV 33 (by decide) f g pc xt hpc _ rfl q9 h2)
        by_cases q10 : pOp (f pc.toNat) = 34
        · exact ⟨⟨f, g, pc, true, wrongW⟩, runs_StepAskW34 ok f g pc xt hpc _ rfl q10 h2 (by
            cases hb : (wi (g (pF (f pc.toNat) 48)) 8#64 && wi (g (pF (f pc.toNat) 44)) 4#64) with
            | false => rfl
            | true => exact absurd ⟨rfl, hpc, h2, .inl ⟨q10, hb⟩⟩ h)⟩
        have q11 : pOp (f pc.toNat) = 35 := by omega
        exact ⟨⟨f, g, pc, true, wrongW⟩, runs_StepAskW35 ok f g pc xt hpc _ rfl q11 h2 (by
            cases hb : (wi (g (pF (f pc.toNat) 48)) 4#64 && wi (g (pF (f pc.toNat) 44)) 8#64) with
            | false => rfl
            | true => exact absurd ⟨rfl, hpc, h2, .inr ⟨q11, hb⟩⟩ h)⟩
      · exact ⟨⟨f, g, pc, true, wrongW⟩, runs_StepNot ok.toOkV f g pc xt hpc _ rfl hn⟩
end Mv
namespace Mv
open Go
set_option maxRecDepth 20000
set_option maxHeartbeats 4000000
set_option linter.unusedSimpArgs false

theorem runs_oracleHS {M : Seat} (n : Nat) (q : Nat → Dg) (okA : OkA M) (ok : OkO M) (w : WS) (l : List (Dg × Bool)) (f g : Nat → BitVec 64) (pc xt : BitVec 64) (a b : BitVec 64) (ha : a.toNat + 8 ≤ 8192) (hb : b.toNat + 4 ≤ 8192) :
    Runs M 217 [.ptr 5 [], .ptr 0 [], .int .i64 34, W a, W b] (stoH' w (.sl 6 [] 0 n 32) l ++ [(5, mach f g pc false xt), (6, .ar 32 n fun i => dg (q i))]) 7
      (fun r H' k' => r = .bool true ∧ H' = stoH' (w.add (Pr.mk' (byWs fun j => f (a.toNat + j)))) (.sl 6 [] 0 n 32) l ++ [(5, mach (fun j => if b.toNat ≤ j ∧ j < b.toNat + 4 then wrd (fun i => (sum64 (Pr.mk' (byWs fun j => f (a.toNat + j))).at).at (8 * (j - b.toNat) + i)) 8 else f j) g pc false xt), (6, .ar 32 n fun i => dg (q i))] ∧ k' = 7) := by
  refine runs_fr ok.k217 rfl fun x hx => ?_
  have h1 : (decide (a ≤ 8192#64) && decide (8#64 ≤ 8192#64 - a)) = true := by
    have : a.toNat ≤ 8192 := by omega
    simp only [BitVec.le_def, Bool.and_eq_true, decide_eq_true_eq, BitVec.toNat_sub, BitVec.toNat_ofNat]; omega
  have h2 : (decide (b ≤ 8192#64) && decide (4#64 ≤ 8192#64 - b)) = true := by
    have : b.toNat ≤ 8192 := by omega
    simp only [BitVec.le_def, Bool.and_eq_true, decide_eq_true_eq, BitVec.toNat_sub, BitVec.toNat_ofNat]; omega
  refine ex_sound 2000 _ _ _ _ ?_; (simp (maxSteps := 4000000) only [f217, c217, mach, stoH', stoV, kinV, List.cons_append, List.nil_append, LM, LZ, seval, reduceCtorEq, forall_const])
  refine call_pZ (runs_within ok a 8#64) ?_
  (simp (maxSteps := 4000000) only [h1, LZ, seval, reduceCtorEq, forall_const])
  refine call_pZ (runs_within ok b 4#64) ?_
  (simp (maxSteps := 4000000) only [h2, LZ, seval, reduceCtorEq, forall_const])
  have e8 : (a + 8#64).toNat = a.toNat + 8 := by rw [BitVec.toNat_add, BitVec.toNat_ofNat, Nat.mod_eq_of_lt (a := 8) (by omega), Nat.mod_eq_of_lt (by omega)]
  rw [e8, Nat.add_sub_cancel_left]
  repeat (refine And.intro (by first | omega | exact True.intro | rfl) ?_)
  refine loop_once ?_
  refine ex_sound 2000 _ _ _ _ ?_
  (simp (maxSteps := 4000000) only [LM, LZ, seval, reduceCtorEq, forall_const])
  repeat (refine And.intro (by first | omega | exact True.intro | rfl) ?_)
  refine call_fZ (runs_AddBN okA ok (f (a.toNat + 0))) ?_
  (simp (maxSteps := 4000000) only [LM, LZ, seval, reduceCtorEq, forall_const])
  repeat (refine And.intro (by first | omega | exact True.intro | rfl) ?_)
  have w1 : IntKind.i64.wrap 1 = 1 := by decide
  rw [w1]
  refine loop_rule (σ := Nat) (fun i => 1 ≤ i ∧ i ≤ 8) (fun i => fr 94 [(0, .ptr 5 []), (1, .ptr 0 []), (2, .int .i64 34), (4, W b), (12, W 4#64), (13, .sl 7 [] 0 (8 * i) 1), (43, .sl 5 [Stp.f 0] a.toNat 8 1), (44, .int .i64 8), (45, .int .i64 i)])
    (fun i => stoH' w (.sl 6 [] 0 n 32) l ++ [(5, mach f g pc false xt), (6, .ar 32 n fun i => dg (q i)), (7, .ar 1 (8 * i) fun j => B (byWs (fun j => f (a.toNat + j)) j))]) (fun _ => 8) (fun i => 8 - i) 1 (by omega) ?_ ?_
  · refine Weak.fr [0, 1, 2, 3, 4, 5, 6, 519] [] hx (by simp only [fr_length]) (by decide) ?_ ?_
    · simp only [LY, seval, reduceCtorEq, implies_true]
    · simp only [stoH', stoV, kinV, mach, Sim_seen, List.cons_append, List.nil_append, LMS, dg, LY, seval, reduceCtorEq, implies_true]
      intro i hi
      have q1 : i / 8 = 0 := by omega
      have q2 : i % 8 = i := by omega
      simp only [byWs, q1, q2, Nat.add_zero]
  · rintro i ⟨hi1, hi⟩
    refine ex_sound 2000 _ _ _ _ ?_
    by_cases h8 : i = 8
    · subst h8
      (simp (maxSteps := 4000000) only [LM, stoH', stoV, kinV, mach, List.cons_append, List.nil_append, LZ, seval, reduceCtorEq, forall_const])
      repeat (refine And.intro (by first | omega | exact True.intro | rfl) ?_)
      have hP : ∀ j, j < 64 → (Pr.mk' (byWs fun j => f (a.toNat + j))).at j = byWs (fun j => f (a.toNat + j)) j := fun j hj => Pr.at_mk' _ _ hj
      generalize Pr.mk' (byWs fun j => f (a.toNat + j)) = P at *
      have hA : Runs M 212 [.ptr 0 [], prV P] _ _ _ := runs_AddS okA ok.toOkS w P n
      generalize hw' : w.add P = w' at *
      clear hw'
      generalize sum64 P.at = D at *
      refine call_mB [0, 1, 2, 3, 4, 6] [0, 1, 2, 3] (hA) (by rfl) (by rfl) (by decide) (by rfl) (by rfl) (by ((try simp only [stoH, stoV, kinV, prV, LMS, LY, seval, reduceCtorEq, implies_true]); first | done | exact True.intro | rfl | (exact fun j hj => (hP j hj).symm))) (by ((try simp only [stoH, stoV, kinV, prV, LMS, LY, seval, reduceCtorEq, implies_true]); first | done | exact True.intro | rfl | (exact fun j hj => (hP j hj).symm))) (by simp only [stoH, stoV, kinV, prV, LMS, LX, implies_true]) (by simp only [stoH, stoV, kinV, prV, LMS, LX, implies_true]) ?_
      (simp (maxSteps := 4000000) only [LM, stoH, stoV, kinV, ren_seen, tup2, LZ, seval, reduceCtorEq, forall_const])
      refine loop_rule (σ := Nat) (fun i => i ≤ 4) (fun i => fr 94 [(0, .ptr 5 []), (4, W b), (16, .sl 8 [] 0 32 1), (77, W 4#64), (78, W (BitVec.ofNat 64 i))])
        (fun i => stoH' w' (.sl 6 [] 0 n 32) l ++ [(5, mach (fun j => if b.toNat ≤ j ∧ j < b.toNat + i then wrd (fun i => D.at (8 * (j - b.toNat) + i)) 8 else f j) g pc false xt), (6, .ar 32 n fun i => dg (q i)), (8, dg D)]) (fun _ => 9) (fun i => 4 - i) 0 (by omega) ?_ ?_
      · refine Weak.fr [0, 1, 2, 3, 4, 5, 6, 7, 200] [] hx (by simp only [fr_length]) (by decide) ?_ ?_
        · simp only [LY, seval, reduceCtorEq, implies_true]
        · simp only [stoH', stoV, kinV, mach, Sim_seen, List.cons_append, List.nil_append, LMS, dg, LY, seval, reduceCtorEq, implies_true]
          exact fun i _ => (if_neg (by omega)).symm
      · intro i hi
        refine ex_sound 2000 _ _ _ _ ?_
        by_cases h4 : i = 4
        · subst h4
          (simp (maxSteps := 4000000) only [LM, stoH', stoV, kinV, mach, List.cons_append, List.nil_append, LZ, seval, reduceCtorEq, forall_const])
          refine RetS.mk hx [0, 1, 2, 3, 4, 5, 6] [] _ _ _ (by decide) (by (simp only [LV, Sim_seen, LMS, dg, LZ, seval, reduceCtorEq, forall_const])) (by ((try simp only [LV, Sim_seen, LMS, dg, LZ, seval, reduceCtorEq, forall_const, LY, seval, reduceCtorEq, implies_true]); first | done | exact True.intro | (intros; rfl))) (by ((try simp only [Sim_seen, LMS, dg, LY, seval, reduceCtorEq, implies_true]); first | done | exact True.intro | (intros; rfl))) ⟨rfl, rfl, rfl⟩
        · have t1 : (BitVec.ofNat 64 i).toNat = i := by rw [BitVec.toNat_ofNat, Nat.mod_eq_of_lt (by omega)]
          have d0 : (BitVec.ofNat 64 i < 4#64) = True := eq_true (by rw [BitVec.lt_def, t1]; show i < 4; omega)
          have t2 : (8#64 * BitVec.ofNat 64 i).toNat = 8 * i := by rw [BitVec.toNat_mul, t1]; show 8 * i % _ = _; omega
          have t3 : (b + BitVec.ofNat 64 i).toNat = b.toNat + i := by rw [BitVec.toNat_add, t1]; omega
          have t4 : BitVec.ofNat 64 i + 1#64 = BitVec.ofNat 64 (i + 1) := by apply BitVec.eq_of_toNat_eq; rw [BitVec.toNat_add, t1, BitVec.toNat_ofNat, BitVec.toNat_ofNat]
          (simp (maxSteps := 4000000) only [d0, t2, t3, t4, LM, stoH', stoV, kinV, mach, List.cons_append, List.nil_append, LZ, seval, reduceCtorEq, forall_const])
          repeat (refine And.intro (by first | omega | exact True.intro | rfl) ?_)
          refine opd_pA (runs_Word ok (32 - 8 * i) (by omega) (fun j => D.at (8 * i + j))) (by ((try simp only [dg, LMS, LY, seval, reduceCtorEq, implies_true]); first | done | exact True.intro | rfl | ((show 8 * i + (32 - 8 * i) ≤ 32; omega)))) (by first | rfl | (simp only [LN, LP, V.ren, tup2, tup3])) (by simp only [dg, LMS, LX, implies_true]) ?_
          (simp (maxSteps := 4000000) only [t2, t3, t4, LM, LZ, seval, reduceCtorEq, forall_const])
          repeat (refine And.intro (by first | omega | exact True.intro | rfl) ?_)
          refine ⟨i + 1, by omega, by omega, ?_⟩
          refine Weak.fr [0, 1, 2, 3, 4, 5, 6, 7, 8] [] hx (by simp only [fr_length]) (by decide) ?_ ?_
          · simp only [LY, seval, reduceCtorEq, implies_true]
          · simp only [Sim_seen, LMS, dg, LY, seval, reduceCtorEq, implies_true]
            intro q hq
            by_cases e : q = b.toNat + i
            · subst e
              rw [if_pos rfl, if_pos (by omega), Nat.add_sub_cancel_left]; simp only [W, LY, seval, reduceCtorEq, implies_true]
            · rw [if_neg e]
              by_cases e2 : b.toNat ≤ q ∧ q < b.toNat + i
              · rw [if_pos (by omega), if_pos e2]; simp only [W, LY, seval, reduceCtorEq, implies_true]
              · rw [if_neg (by omega), if_neg e2]; simp only [W, LY, seval, reduceCtorEq, implies_true]
    · have d0 : ((i : Int) < 8) = True := eq_true (by omega)
      have w0 : IntKind.i64.wrap ((i : Int) + 1) = ((i + 1 : Nat) : Int) := by rw [wrap_i64 (by omega)]; omega
      have n0 : (0 : Int) ≤ (i : Int) := by omega
      (simp (maxSteps := 4000000) only [d0, w0, LM, stoH', stoV, kinV, mach, List.cons_append, List.nil_append, LZ, seval, reduceCtorEq, forall_const])
      repeat (refine And.intro (by first | omega | exact True.intro | rfl) ?_)
      refine call_mA [7] (runs_AddBS okA ok (8 * i) (by omega) (byWs fun j => f (a.toNat + j)) (f (a.toNat + i))) (by decide) (by rfl) (by ((try simp only [LMS, LY, seval, reduceCtorEq, implies_true]); first | done | exact True.intro | rfl)) (by ((try simp only [LMS, LY, seval, reduceCtorEq, implies_true]); first | done | exact True.intro | rfl)) (by simp only [LMS, LX, implies_true]) (by simp only [LMS, LX, implies_true]) ?_
      (simp (maxSteps := 4000000) only [LM, w0, LZ, seval, reduceCtorEq, forall_const])
      repeat (refine And.intro (by first | omega | exact True.intro | rfl) ?_)
      refine ⟨i + 1, by omega, by omega, by omega, ?_⟩
      have e88 : 8 * (i + 1) = 8 * i + 8 := by omega
      rw [e88]
      refine Weak.fr [0, 1, 2, 3, 4, 5, 6, 104] [] hx (by simp only [fr_length]) (by decide) ?_ ?_
      · simp only [LY, seval, reduceCtorEq, implies_true]
      · simp only [Sim_seen, LMS, dg, LY, seval, reduceCtorEq, implies_true]
        intro q hq
        by_cases e : q < 8 * i
        · rw [if_pos e]
        · have e1 : q / 8 = i := by omega
          have e2 : q % 8 = q - 8 * i := by omega
          rw [if_neg e, byWs, e1, e2]
theorem runs_StepHashS {M : Seat} (n : Nat) (q : Nat → Dg) (okA : OkA M) (ok : OkO M) (s : WS) (l : List (Dg × Bool)) (f g : Nat → BitVec 64) (pc xt : BitVec 64) (hpc : ¬ 8192#64 ≤ pc) (w : BitVec 64) (hw : f pc.toNat = w) (hop : pOp w = 34) (h2 : w >>> 32 &&& 255#64 = 0#64)
    (ha : (g (pF w 48)).toNat + 8 ≤ 8192) (hb : (g (pF w 44)).toNat + 4 ≤ 8192) :
    Runs M 70 [.ptr 5 [], .ptr 0 []] (stoH' s (.sl 6 [] 0 n 32) l ++ [(5, mach f g pc false xt), (6, .ar 32 n fun i => dg (q i))]) 7
      (fun r H' k' => r = .nili ∧ H' = stoH' (s.add (Pr.mk' (byWs fun j => f ((g (pF w 48)).toNat + j)))) (.sl 6 [] 0 n 32) l ++ [(5, mach (fun j => if (g (pF w 44)).toNat ≤ j ∧ j < (g (pF w 44)).toNat + 4 then wrd (fun i => (sum64 (Pr.mk' (byWs fun j => f ((g (pF w 48)).toNat + j))).at).at (8 * (j - (g (pF w 44)).toNat) + i)) 8 else f j) g (pc + 1#64) false xt), (6, .ar 32 n fun i => dg (q i))] ∧ k' = 7) := by
  refine runs_fr ok.k70 rfl fun x hx => ?_
  have hp : pc.toNat < 8192 := by rw [BitVec.le_def] at hpc; simpa using hpc
  have a1 := pF_lt w 52
  have a2 := pF_lt w 48
  have a3 := pF_lt w 44
  have hO := runs_oracleHS n q okA ok s l f g pc xt _ _ ha hb
  generalize s.add (Pr.mk' (byWs fun j => f ((g (pF w 48)).toNat + j))) = s' at *
  generalize sum64 (Pr.mk' (byWs fun j => f ((g (pF w 48)).toNat + j))).at = D at *
  generalize (fun j => if (g (pF w 44)).toNat ≤ j ∧ j < (g (pF w 44)).toNat + 4 then wrd (fun i => D.at (8 * (j - (g (pF w 44)).toNat) + i)) 8 else f j) = F at *
  refine ex_sound 2000 _ _ _ _ ?_; (simp (maxSteps := 4000000) only [f70, c70, mach, hpc, hw, stoH', stoV, kinV, List.cons_append, List.nil_append, LZ, seval, reduceCtorEq, forall_const])
  repeat (refine And.intro (by first | omega | exact True.intro | rfl) ?_)
  refine opd_pA (runs_Parts ok.toOkV w (by omega) h2) (by ((try simp only [partsR, LY, seval, reduceCtorEq, implies_true]); first | done | exact True.intro | rfl)) (by first | rfl | (simp only [LN, LP, V.ren, tup2, tup3])) (by simp only [partsR, LX, implies_true]) ?_
  (simp (maxSteps := 4000000) only [partsR, hop, LZ, seval, reduceCtorEq, forall_const])
  repeat (refine And.intro (by first | omega | exact True.intro | rfl) ?_)
  refine opd_mA [0, 1, 2, 3, 4, 5, 6] (hO) (by decide) (by rfl) (by ((try simp only [stoH', stoV, kinV, mach, Sim_seen, NoIm_seen, dg, LMS, List.cons_append, List.nil_append, LY, seval, reduceCtorEq, implies_true]); first | done | exact True.intro | rfl)) (by ((try simp only [stoH', stoV, kinV, mach, Sim_seen, NoIm_seen, dg, LMS, List.cons_append, List.nil_append, LY, seval, reduceCtorEq, implies_true]); first | done | exact True.intro | rfl)) (by simp only [stoH', stoV, kinV, mach, Sim_seen, NoIm_seen, dg, LMS, List.cons_append, List.nil_append, LX, implies_true]) (by simp only [stoH', stoV, kinV, mach, Sim_seen, NoIm_seen, dg, LMS, List.cons_append, List.nil_append, LX, implies_true]) ?_
  (simp (maxSteps := 4000000) only [stoH', stoV, kinV, mach, ren_seen, LM, List.cons_append, List.nil_append, LZ, seval, reduceCtorEq, forall_const])
  repeat (refine And.intro (by first | omega | exact True.intro | rfl) ?_)
  refine RetS.mk hx [0, 1, 2, 3, 4, 5, 6] [] _ _ _ (by decide) (by (simp only [LV, Sim_seen, LMS, dg, LZ, seval, reduceCtorEq, forall_const])) (by ((try simp only [LV, Sim_seen, LMS, dg, LZ, seval, reduceCtorEq, forall_const, LY, seval, reduceCtorEq, implies_true]); first | done | exact True.intro | (intros; rfl))) (by ((try simp only [Sim_seen, LMS, dg, LY, seval, reduceCtorEq, implies_true]); first | done | exact True.intro | (intros; rfl))) ⟨rfl, rfl, rfl⟩

end Mv
namespace Mv
open Go
set_option maxRecDepth 20000
set_option maxHeartbeats 4000000
set_option linter.unusedSimpArgs false

/-- What Get comes to. -/
def getR : Option Pr → V
  | some p => tup2 (prV p) .nili
  | none => tup2 (prV Pr.zero) (.ifc 74 (.int .i64 14))

theorem runs_GetNnew {M : Seat} (ok : OkO M) (w : WS) (l : List (Dg × Bool)) (h : Dg) (o : Option Pr) (ho : lkp h w.pres = o) (hn : lkp h l = none ∨ lkp h l = some false) :
    Runs M 328 [.ptr 0 [], dg h] (stoH' w .nils l) 5 (fun r H' k' => r = getR o ∧ H' = stoH' w (.sl 5 [] 0 1 32) (updL h true l) ++ [(5, .ar 32 1 fun _ => dg h)] ∧ k' = 6) := by
  have hsv : ∀ l : List (Dg × Bool), mpV V.bool false l = seenV l := fun _ => rfl
  refine runs_fr ok.k328 rfl fun x hx => ?_
  cases o <;> rcases hn with hn | hn
  all_goals refine ex_sound 2000 _ _ _ _ ?_; (simp (maxSteps := 4000000) only [f328, c328, stoH', stoV, kinV, seenV, ho, hn, LM, LZ, seval, reduceCtorEq, forall_const])
  all_goals refine RetS.mk hx [0, 1, 2, 3, 4, 773] [] (getR _) (stoH' w (.sl 5 [] 0 1 32) (updL h true l) ++ [(5, .ar 32 1 fun _ => dg h)]) 6 (by decide) (by simp only [res, resPs, resP, resV, tup2, LTP, LM, LZ, seval, reduceCtorEq, forall_const]) (by simp only [res, resPs, resP, resV, getR, tup2, LTP, LM, LZ, seval, reduceCtorEq, forall_const]; simp only [prV, Pr.at_zero, LMS, LY, seval, reduceCtorEq, implies_true]; try exact fun _ _ => rfl) ?_ ⟨rfl, rfl, rfl⟩
  all_goals simp only [stoH', List.cons_append, List.nil_append, stoV, kinV, hsv, Sim_seen, LMS, LY, seval, reduceCtorEq, implies_true]
  all_goals intro i hi
  all_goals obtain rfl : i = 0 := by omega
  all_goals rw [if_pos rfl]
  all_goals simp only [dg, LY, seval, reduceCtorEq, implies_true]

theorem runs_GetSnew {M : Seat} (ok : OkO M) (w : WS) (n : Nat) (hn40 : n < 1099511627776) (q : Nat → Dg) (l : List (Dg × Bool)) (h : Dg) (o : Option Pr) (ho : lkp h w.pres = o) (hn : lkp h l = none ∨ lkp h l = some false) :
    Runs M 328 [.ptr 0 [], dg h] (stoH' w (.sl 5 [] 0 n 32) l ++ [(5, .ar 32 n fun i => dg (q i))]) 6 (fun r H' k' => r = getR o ∧ H' = stoH' w (.sl 6 [] 0 (n + 1) 32) (updL h true l) ++ [(6, .ar 32 (n + 1) fun i => dg (if i < n then q i else h))] ∧ k' = 7) := by
  have hsv : ∀ l : List (Dg × Bool), mpV V.bool false l = seenV l := fun _ => rfl
  refine runs_fr ok.k328 rfl fun x hx => ?_
  cases o <;> rcases hn with hn | hn
  all_goals refine ex_sound 2000 _ _ _ _ ?_; (simp (maxSteps := 4000000) only [f328, c328, stoH', stoV, kinV, seenV, ho, hn, LM, List.cons_append, List.nil_append, LZ, seval, reduceCtorEq, forall_const])
  all_goals repeat (refine And.intro (by first | omega | exact True.intro | rfl) ?_)
  all_goals refine RetS.mk hx [0, 1, 2, 3, 4, 5, 774] [] (getR _) (stoH' w (.sl 6 [] 0 (n + 1) 32) (updL h true l) ++ [(6, .ar 32 (n + 1) fun i => dg (if i < n then q i else h))]) 7 (by decide) (by simp only [res, resPs, resP, resV, tup2, LTP, LM, LZ, seval, reduceCtorEq, forall_const]) (by simp only [res, resPs, resP, resV, getR, tup2, LTP, LM, LZ, seval, reduceCtorEq, forall_const]; simp only [prV, Pr.at_zero, LMS, LY, seval, reduceCtorEq, implies_true]; try exact fun _ _ => rfl) ?_ ⟨rfl, rfl, rfl⟩
  all_goals simp only [stoH', List.cons_append, List.nil_append, stoV, kinV, hsv, Sim_seen, LMS, LY, seval, reduceCtorEq, implies_true]
  all_goals intro i hi
  all_goals by_cases hin : i < n
  all_goals try (rw [if_pos hin, if_pos hin]; simp only [dg, LY, seval, reduceCtorEq, implies_true]; done)
  all_goals (rw [if_neg hin, if_neg hin, if_pos (by omega)]; simp only [dg, LY, seval, reduceCtorEq, implies_true])

theorem runs_GetNold {M : Seat} (ok : OkO M) (w : WS)  (l : List (Dg × Bool)) (h : Dg) (o : Option Pr) (ho : lkp h w.pres = o) (hn : lkp h l = some true) :
    Runs M 328 [.ptr 0 [], dg h] (stoH' w .nils l) 5 (fun r H' k' => r = getR o ∧ H' = stoH' w .nils l ∧ k' = 5) := by
  have hsv : ∀ l : List (Dg × Bool), mpV V.bool false l = seenV l := fun _ => rfl
  refine runs_fr ok.k328 rfl fun x hx => ?_
  cases o
  all_goals refine ex_sound 2000 _ _ _ _ ?_; (simp (maxSteps := 4000000) only [f328, c328, stoH', stoV, kinV, seenV, ho, hn, LM, List.cons_append, List.nil_append, LZ, seval, reduceCtorEq, forall_const])
  all_goals refine RetS.mk hx [0, 1, 2, 3, 4] [] (getR _) (stoH' w .nils l) 5 (by decide) (by simp only [res, resPs, resP, resV, tup2, LTP, LM, LZ, seval, reduceCtorEq, forall_const]) (by simp only [res, resPs, resP, resV, getR, tup2, LTP, LM, LZ, seval, reduceCtorEq, forall_const]; simp only [prV, Pr.at_zero, LMS, LY, seval, reduceCtorEq, implies_true]; try exact fun _ _ => rfl) ?_ ⟨rfl, rfl, rfl⟩
  all_goals simp only [stoH', List.cons_append, List.nil_append, stoV, kinV, hsv, Sim_seen, dg, LMS, LY, seval, reduceCtorEq, implies_true]
theorem runs_GetSold {M : Seat} (ok : OkO M) (w : WS) (n : Nat) (q : Nat → Dg) (l : List (Dg × Bool)) (h : Dg) (o : Option Pr) (ho : lkp h w.pres = o) (hn : lkp h l = some true) :
    Runs M 328 [.ptr 0 [], dg h] (stoH' w (.sl 5 [] 0 n 32) l ++ [(5, .ar 32 n fun i => dg (q i))]) 6 (fun r H' k' => r = getR o ∧ H' = stoH' w (.sl 5 [] 0 n 32) l ++ [(5, .ar 32 n fun i => dg (q i))] ∧ k' = 6) := by
  have hsv : ∀ l : List (Dg × Bool), mpV V.bool false l = seenV l := fun _ => rfl
  refine runs_fr ok.k328 rfl fun x hx => ?_
  cases o
  all_goals refine ex_sound 2000 _ _ _ _ ?_; (simp (maxSteps := 4000000) only [f328, c328, stoH', stoV, kinV, seenV, ho, hn, LM, List.cons_append, List.nil_append, LZ, seval, reduceCtorEq, forall_const])
  all_goals refine RetS.mk hx [0, 1, 2, 3, 4, 5] [] (getR _) (stoH' w (.sl 5 [] 0 n 32) l ++ [(5, .ar 32 n fun i => dg (q i))]) 6 (by decide) (by simp only [res, resPs, resP, resV, tup2, LTP, LM, LZ, seval, reduceCtorEq, forall_const]) (by simp only [res, resPs, resP, resV, getR, tup2, LTP, LM, LZ, seval, reduceCtorEq, forall_const]; simp only [prV, Pr.at_zero, LMS, LY, seval, reduceCtorEq, implies_true]; try exact fun _ _ => rfl) ?_ ⟨rfl, rfl, rfl⟩
  all_goals simp only [stoH', List.cons_append, List.nil_append, stoV, kinV, hsv, Sim_seen, dg, LMS, LY, seval, reduceCtorEq, implies_true]
end Mv
