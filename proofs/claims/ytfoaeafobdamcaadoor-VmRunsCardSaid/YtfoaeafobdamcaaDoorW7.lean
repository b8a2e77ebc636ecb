/- The oracle, asked for a preimage. -/
import Derived.Test.YtfoaeafobdamcaaDoorW1
import Derived.Test.YtfoaeafobdamcaaDoorW6
set_option linter.unusedSimpArgs false
set_option linter.unusedVariables false
namespace Mv
open Go
set_option maxRecDepth 20000
set_option maxHeartbeats 4000000
set_option linter.unusedSimpArgs false

end Mv
namespace Mv
open Go
set_option maxRecDepth 20000
set_option maxHeartbeats 4000000
set_option linter.unusedSimpArgs false

theorem runs_StepHash {M : Seat} (okA : OkA M) (ok : OkO M) (s : WS) (l : List (Dg × Bool)) (f g : Nat → BitVec 64) (pc xt : BitVec 64) (hpc : ¬ 8192#64 ≤ pc) (w : BitVec 64) (hw : f pc.toNat = w) (hop : pOp w = 34) (h2 : w >>> 32 &&& 255#64 = 0#64)
    (ha : (g (pF w 48)).toNat + 8 ≤ 8192) (hb : (g (pF w 44)).toNat + 4 ≤ 8192) :
    Runs M 70 [.ptr 5 [], .ptr 0 []] (stoH' s .nils l ++ [(5, mach f g pc false xt)]) 6
      (fun r H' k' => r = .nili ∧ H' = stoH' (s.add (Pr.mk' (byWs fun j => f ((g (pF w 48)).toNat + j)))) .nils l ++ [(5, mach (fun j => if (g (pF w 44)).toNat ≤ j ∧ j < (g (pF w 44)).toNat + 4 then wrd (fun i => (sum64 (Pr.mk' (byWs fun j => f ((g (pF w 48)).toNat + j))).at).at (8 * (j - (g (pF w 44)).toNat) + i)) 8 else f j) g (pc + 1#64) false xt)] ∧ k' = 6) := by
  refine runs_fr ok.k70 rfl fun x hx => ?_
  have hp : pc.toNat < 8192 := by rw [BitVec.le_def] at hpc; simpa using hpc
  have a1 := pF_lt w 52
  have a2 := pF_lt w 48
  have a3 := pF_lt w 44
  have hO := runs_oracleH okA ok s l f g pc xt _ _ ha hb
  generalize s.add (Pr.mk' (byWs fun j => f ((g (pF w 48)).toNat + j))) = s' at *
  generalize sum64 (Pr.mk' (byWs fun j => f ((g (pF w 48)).toNat + j))).at = D at *
  generalize (fun j => if (g (pF w 44)).toNat ≤ j ∧ j < (g (pF w 44)).toNat + 4 then wrd (fun i => D.at (8 * (j - (g (pF w 44)).toNat) + i)) 8 else f j) = F at *
  refine ex_sound 2000 _ _ _ _ ?_; (simp (maxSteps := 4000000) only [f70, c70, mach, hpc, hw, stoH', stoV, kinV, List.cons_append, List.nil_append, LZ, seval, reduceCtorEq, forall_const])
  repeat (refine And.intro (by first | omega | exact True.intro | rfl) ?_)
  refine opd_pA (runs_Parts ok.toOkV w (by omega) h2) (by ((try simp only [partsR, LY, seval, reduceCtorEq, implies_true]); first | done | exact True.intro | rfl)) (by first | rfl | (simp only [LN, LP, V.ren, tup2, tup3])) (by simp only [partsR, LX, implies_true]) ?_
  (simp (maxSteps := 4000000) only [partsR, hop, LZ, seval, reduceCtorEq, forall_const])
  repeat (refine And.intro (by first | omega | exact True.intro | rfl) ?_)
  refine opd_mA [0, 1, 2, 3, 4, 5] (hO) (by decide) (by rfl) (by ((try simp only [stoH', stoV, kinV, mach, Sim_seen, NoIm_seen, LMS, List.cons_append, List.nil_append, LY, seval, reduceCtorEq, implies_true]); first | done | exact True.intro | rfl)) (by ((try simp only [stoH', stoV, kinV, mach, Sim_seen, NoIm_seen, LMS, List.cons_append, List.nil_append, LY, seval, reduceCtorEq, implies_true]); first | done | exact True.intro | rfl)) (by simp only [stoH', stoV, kinV, mach, Sim_seen, NoIm_seen, LMS, List.cons_append, List.nil_append, LX, implies_true]) (by simp only [stoH', stoV, kinV, mach, Sim_seen, NoIm_seen, LMS, List.cons_append, List.nil_append, LX, implies_true]) ?_
  (simp (maxSteps := 4000000) only [stoH', stoV, kinV, mach, ren_seen, LM, List.cons_append, List.nil_append, LZ, seval, reduceCtorEq, forall_const])
  repeat (refine And.intro (by first | omega | exact True.intro | rfl) ?_)
  refine RetS.mk hx [0, 1, 2, 3, 4, 5] [] _ _ _ (by decide) (by (simp only [LV, Sim_seen, LMS, LZ, seval, reduceCtorEq, forall_const])) (by ((try simp only [LV, Sim_seen, LMS, LZ, seval, reduceCtorEq, forall_const, LY, seval, reduceCtorEq, implies_true]); first | done | exact True.intro | (intros; rfl))) (by ((try simp only [Sim_seen, LMS, LY, seval, reduceCtorEq, implies_true]); first | done | exact True.intro | (intros; rfl))) ⟨rfl, rfl, rfl⟩

end Mv
