/- A machine's step with its store, exactly. -/
import Derived.Test.YtncipgmjhaiagaaDoorW1
import Derived.Test.YtncipgmjhaiagaaDoorK9
import Derived.Test.YtncipgmjhaiagaaDoorW8
import Derived.Test.YtncipgmjhaiagaaDoorY3
set_option linter.unusedSimpArgs false
set_option linter.unusedVariables false
namespace Mv
open Go
set_option maxRecDepth 20000
set_option maxHeartbeats 4000000
set_option linter.unusedSimpArgs false

theorem lkp_updL_ne {α : Type} (k k' : Dg) (hne : ¬ k' = k) (x : α) : ∀ l : List (Dg × α), lkp k' (updL k x l) = lkp k' l
  | [] => by simp [updL, lkp, hne]
  | (h, y) :: r => by
    by_cases e : k = h
    · subst e; simp [updL, lkp, hne]
    · have := lkp_updL_ne k k' hne x r
      simp only [updL, e, if_false, lkp, this]
theorem PresOk_add (w : WS) (p : Pr) (h : PresOk w.pres) : PresOk (w.add p).pres := by
  intro k q hk
  rw [WS.add, kin_pres] at hk
  dsimp only at hk
  by_cases e : k = sum64 p.at
  · subst e
    rw [lkp_updL] at hk
    cases hk; rfl
  · rw [lkp_updL_ne _ _ e] at hk
    exact h k q hk

end Mv
namespace Mv
open Go
set_option maxRecDepth 20000
set_option maxHeartbeats 4000000
set_option linter.unusedSimpArgs false

def Mc.com (m : Mc) : Dg := comD m.f m.g m.pc m.hl m.xt
/-- What a machine's proof has. -/
def prvX (pres : List (Dg × Pr)) (m : Mc) : Option Int × List Pf × Pr :=
  if m.hl = true then (none, [], Pr.zero) else if 8192#64 ≤ m.pc then (none, [], Pr.zero)
  else ((nx (prM pres) m.h ⟨m.f, [], Pr.zero⟩).2.1, (nx (prM pres) m.h ⟨m.f, [], Pr.zero⟩).2.2.l, (nx (prM pres) m.h ⟨m.f, [], Pr.zero⟩).2.2.pre)
theorem runs_PvXN {M : Seat} (ok : OkOs M) (m : Mc) (pres : List (Dg × Pr)) (q : Nat) :
    Runs M 97 [.ptr 0 [], .ptr 1 []] [(0, m.v), (1, st2 (.nils)), (2, mpV prV Pr.zero pres)] 5
      (fun r H' k' => r = pvR m (prvX pres m).1 (prvX pres m).2.1 (prvX pres m).2.2 ∧ H' = [(0, m.v), (1, st2 (.nils)), (2, mpV prV Pr.zero pres)] ∧ k' = 5) := by
  obtain ⟨f, g, pc, hl, xt⟩ := m
  unfold prvX
  cases hl with
  | true => rw [if_pos rfl]; exact runs_PvHlN ok f g pc xt pres q
  | false =>
    rw [if_neg (by simp)]
    by_cases hpc : 8192#64 ≤ pc
    · rw [if_pos hpc]; exact runs_PvOutN ok f g pc xt hpc pres q
    · rw [if_neg hpc]
      generalize hq : nx (prM pres) (⟨f, g, pc, false, xt⟩ : Mc).h ⟨f, [], Pr.zero⟩ = r
      obtain ⟨h1, e, s1⟩ := r
      exact runs_PvNN ok f g pc xt hpc pres q h1 e s1 hq
/-- A proof that was made leads to the machine behind its step. -/
theorem vfy_X (pres : List (Dg × Pr)) (hp : PresOk pres) (m : Mc) (h : (prvX pres m).1 = none) : vfy m.com (memN m.f 13 0) m.h (prvX pres m).2.1 (prvX pres m).2.2 = ((stepX pres m).com, none) := by
  obtain ⟨f, g, pc, hl, xt⟩ := m
  have hc : pair (memN f 13 0) (headD g pc hl xt) = (⟨f, g, pc, hl, xt⟩ : Mc).com := rfl
  unfold vfy
  rw [if_neg (fun h => h hc)]
  unfold prvX at h ⊢
  unfold stepX
  dsimp only [Mc.h] at h ⊢
  cases hl with
  | true => simp only [if_true, vfE]; rfl
  | false =>
    simp only [Bool.false_eq_true, if_false] at h ⊢
    by_cases hpc : 8192#64 ≤ pc
    · simp only [hpc, if_true, vfE]; rfl
    · simp only [hpc, if_false] at h ⊢
      generalize hq : nx (prM pres) ⟨g, pc, false, xt⟩ ⟨f, [], Pr.zero⟩ = r at *
      obtain ⟨h1, e, s1⟩ := r
      have h : e = none := h
      subst h
      have hF := nx_full pres hp ⟨g, pc, false, xt⟩ rfl hpc f Pr.zero h1 s1 hq []
      rw [List.append_nil] at hF
      dsimp only
      rw [hF]
      show vfE _ _ = _
      rw [vfE, if_pos rfl]
      rfl

theorem runs_PvNilM {M : Seat} (ok : OkOs M) :
    Runs M 97 [.nilp, .ptr 0 []] [] 1 (fun r H' k' => r = tup2 (spV Dg.zero ⟨fun _ => 0#64, 0#64, false, 0#64⟩ [] Pr.zero) (.ifc 74 (.int .i64 1)) ∧ H' = [] ∧ k' = 1) := by
  refine runs_fr ok.k97 rfl fun x hx => ?_
  refine ex_sound 2000 _ _ _ _ ?_; (simp (maxSteps := 4000000) only [f97, c97, pr0, dg0, LZ, seval, reduceCtorEq, forall_const])
  refine RetS.mk hx [0] [] _ _ _ (by decide) (by (simp only [LV, spV, Hd.v, hdV, dg, List.length_nil, LM, LMS, LZ, seval, reduceCtorEq, forall_const])) (by ((try simp only [LV, spV, Hd.v, hdV, dg, List.length_nil, LM, LMS, LZ, seval, reduceCtorEq, forall_const, LY, seval, reduceCtorEq, implies_true]); first | done | exact True.intro | (intros; rfl))) (by ((try simp only [spV, Hd.v, hdV, dg, List.length_nil, LM, LMS, LY, seval, reduceCtorEq, implies_true]); first | done | exact True.intro | (intros; rfl))) ⟨rfl, rfl, rfl⟩
theorem runs_PvNilS {M : Seat} (ok : OkOs M) :
    Runs M 97 [.ptr 0 [], .nilp] [] 1 (fun r H' k' => r = tup2 (spV Dg.zero ⟨fun _ => 0#64, 0#64, false, 0#64⟩ [] Pr.zero) (.ifc 74 (.int .i64 1)) ∧ H' = [] ∧ k' = 1) := by
  refine runs_fr ok.k97 rfl fun x hx => ?_
  refine ex_sound 2000 _ _ _ _ ?_; (simp (maxSteps := 4000000) only [f97, c97, pr0, dg0, LZ, seval, reduceCtorEq, forall_const])
  refine RetS.mk hx [0] [] _ _ _ (by decide) (by (simp only [LV, spV, Hd.v, hdV, dg, List.length_nil, LM, LMS, LZ, seval, reduceCtorEq, forall_const])) (by ((try simp only [LV, spV, Hd.v, hdV, dg, List.length_nil, LM, LMS, LZ, seval, reduceCtorEq, forall_const, LY, seval, reduceCtorEq, implies_true]); first | done | exact True.intro | (intros; rfl))) (by ((try simp only [spV, Hd.v, hdV, dg, List.length_nil, LM, LMS, LY, seval, reduceCtorEq, implies_true]); first | done | exact True.intro | (intros; rfl))) ⟨rfl, rfl, rfl⟩
end Mv
