/- A run, from a store that was asked something. -/
import Derived.Test.YtfoaeafobdamcaaDoorW1
import Derived.Test.YtfoaeafobdamcaaDoorY3
set_option linter.unusedSimpArgs false
set_option linter.unusedVariables false
namespace Mv
open Go
set_option maxRecDepth 20000
set_option maxHeartbeats 4000000
set_option linter.unusedSimpArgs false

theorem its_pos {M : Seat} (ok : OkT M) (s : SM) (hs : s.n < 549755813888) (i : Nat) (hi : i < 549755813888) (h : 0 < (its ok s i).n) : 0 < (its ok s (i + 1)).n := by
  rcases (its_R ok s hs i hi).1 with ⟨-, hw⟩ | ⟨h0, -, -⟩ | ⟨h0, -, -⟩ | ⟨-, h1, -⟩ | ⟨-, h1, -⟩
  · rw [hw]; exact h
  · omega
  · omega
  · exact h1
  · exact h1
theorem its_pos' {M : Seat} (ok : OkT M) (s : SM) (hs : s.n < 549755813888) (i : Nat) (h : 0 < (its ok s i).n) : ∀ j, i ≤ j → j < 549755813888 → 0 < (its ok s j).n
  | 0, hj, _ => by obtain rfl : i = 0 := Nat.le_zero.1 hj; exact h
  | j + 1, hj, hb => by
    rcases Nat.lt_or_ge j i with h' | h'
    · rw [show j + 1 = i by omega]; exact h
    · exact its_pos ok s hs j (by omega) (its_pos' ok s hs i h j h' (by omega))

def bF (g : Bool) : Nat := if g then 7 else 6

theorem runs_RunS {M : Seat} (ok : OkT M) (s : SM) (hs : 0 < s.n) (hs0 : s.n < 549755813888) (n : Nat) (hn : n < 549755813888) :
    Runs M 71 [.ptr 5 [], .ptr 0 [], .int .i64 n] (Sh 6 s) 7 (fun r H' k' => r = tup2 (.int .i64 (cnt ok s n)) .nili ∧ ((H' = Sh 6 (its ok s n) ∧ k' = 7) ∨ (H' = Sh 7 (its ok s n) ∧ k' = 8))) := by
  refine runs_fr ok.ok.k71 rfl fun x hx => ?_
  have e0 : ((n : Int) < 0) = False := eq_false (by omega)
  have hv : ∀ m : Mc, m.v = mach m.f m.g m.pc m.hl m.xt := fun _ => rfl
  refine ex_sound 2000 _ _ _ _ ?_; (simp (maxSteps := 4000000) only [f71, c71, e0, Sh, stoH', stoV, kinV, hv, mach, List.cons_append, List.nil_append, LZ, seval, reduceCtorEq, forall_const])
  refine loop_rule (σ := Nat × Bool) (fun t => t.1 ≤ n ∧ ∀ j, j < t.1 → ¬ (its ok s j).m.hl = true) (fun t => fr 37 [(0, .ptr 5 []), (1, .ptr 0 []), (2, .int .i64 n), (8, .int .i64 t.1)]) (fun t => Sh (bF t.2) (its ok s t.1)) (fun t => bF t.2 + 1) (fun t => n - t.1) (0, false) ⟨by show 0 ≤ n; omega, fun j hj => absurd hj (Nat.not_lt_zero _)⟩ ?_ ?_
  · show Weak M x _ _ _ _ (Sh 6 s) 7
    refine Weak.fr [0, 1, 2, 3, 4, 5, 6] [] hx (by simp only [fr_length]) (by decide) ?_ ?_
    · simp only [LY, seval, reduceCtorEq, implies_true]
    · simp only [LA6, hv, Sim_seen, dg, LMS, LY, seval, reduceCtorEq, implies_true]
  · rintro ⟨i, g⟩ ⟨hi, hnh⟩
    dsimp only at hi hnh
    have hst := its_R ok s hs0 i (by omega)
    have hz : 0 < (its ok s i).n := its_pos' ok s hs0 0 hs i (Nat.zero_le i) (by omega)
    have hfin : (i = n ∨ (its ok s i).m.hl = true) → its ok s n = its ok s i ∧ cnt ok s n = i := fun h => by
      rcases h with h | h
      · subst h; exact ⟨rfl, cnt_all ok s i hnh⟩
      · exact ⟨its_h ok s hs0 i h n hi hn, by rw [cnt_h ok s hs0 i h n hi hn]; exact cnt_all ok s i hnh⟩
    refine ex_sound 2000 _ _ _ _ ?_
    have hnext : (its ok s i).m.hl = false → ∀ j, j < i + 1 → ¬ (its ok s j).m.hl = true := fun hl j hj => by
      rcases Nat.lt_or_ge j i with h | h
      · exact hnh j h
      · rw [show j = i by omega, hl]; exact Bool.false_ne_true
    generalize hσ' : its ok s (i + 1) = σ' at *
    generalize hσ : its ok s i = σ at *
    have w0 : IntKind.i64.wrap ((i : Int) + 1) = ((i + 1 : Nat) : Int) := by rw [wrap_i64 (by omega)]; omega
    cases g
    · show ex M x _ _ _ 7 _ (Sh 6 σ)
      by_cases hin : i < n
      · have d0 : ((i : Int) < (n : Int)) = True := eq_true (by omega)
        cases hhl : σ.m.hl with
        | true =>
          obtain ⟨q1, q2⟩ := hfin (.inr hhl)
          rw [q1, q2]
          (simp (maxSteps := 4000000) only [d0, hhl, LA6, bF, hv, LZ, seval, reduceCtorEq, forall_const])
          refine RetS.mk hx [0, 1, 2, 3, 4, 5, 6] [] _ _ _ (by decide) (by (simp only [LV, LZ, seval, reduceCtorEq, forall_const])) (by ((try simp only [LV, LZ, seval, reduceCtorEq, forall_const, LY, seval, reduceCtorEq, implies_true]); first | done | exact True.intro | (intros; rfl))) (by ((try simp only [d0, hhl, LA6, hv, Sim_seen, dg, LMS, LY, seval, reduceCtorEq, implies_true]); first | done | exact True.intro | (intros; rfl))) ⟨rfl, Or.inl ⟨rfl, rfl⟩⟩
        | false =>
          (simp (maxSteps := 4000000) only [d0, LA6, hv, hhl, LZ, seval, reduceCtorEq, forall_const])
          rcases hst.1 with ⟨h, hw⟩ | ⟨h0, -, -⟩ | ⟨h0, -, -⟩ | ⟨h0, h1', h⟩ | ⟨h0, h1', h⟩
          · have hm : Runs M 70 [.ptr 0 [], .ptr 1 []] [(0, σ.m.v)] 2 _ := h
            rw [hv σ.m, hhl] at hm
            have w1 : σ'.w = σ.w := by rw [hw]
            have w2 : σ'.l = σ.l := by rw [hw]
            have w3 : σ'.n = σ.n := by rw [hw]
            have w4 : σ'.q = σ.q := by rw [hw]
            clear hw
            refine call_mB [5, 0] [5] (hm) (by rfl) (by rfl) (by decide) (by rfl) (by rfl) (by ((try simp only [mach, hv, LY, seval, reduceCtorEq, implies_true]); first | done | exact True.intro | rfl)) (by ((try simp only [mach, hv, LY, seval, reduceCtorEq, implies_true]); first | done | exact True.intro | rfl)) (by simp only [mach, hv, LX, implies_true]) (by simp only [mach, hv, LX, implies_true]) ?_
            (simp (maxSteps := 4000000) only [LA6, hv, ren_seen, LM, w0, LZ, seval, reduceCtorEq, forall_const])
            refine ⟨(i + 1, false), by show i + 1 ≤ n; omega, hnext hhl, by show n - (i + 1) < n - i; omega, ?_⟩
            show Weak M x _ _ _ _ (Sh 6 (its ok s (i + 1))) 7
            rw [hσ']
            refine Weak.fr [0, 1, 2, 3, 4, 5, 6] [] hx (by simp only [fr_length]) (by decide) ?_ ?_
            · simp only [LY, seval, reduceCtorEq, implies_true]
            · simp only [w1, w2, w3, w4, LA6, hv, Sim_seen, dg, LMS, LY, seval, reduceCtorEq, implies_true]
          · omega
          · omega
          · have hm : Runs M 70 [.ptr 5 [], .ptr 0 []] _ _ _ := h
            simp only [Sh, hv σ.m, hhl] at hm
            refine call_mA [0, 1, 2, 3, 4, 5, 6] (hm) (by decide) (by rfl) (by ((try simp only [LA6, hv, Sim_seen, NoIm_seen, dg, LMS, LY, seval, reduceCtorEq, implies_true]); first | done | exact True.intro | rfl)) (by ((try simp only [LA6, hv, Sim_seen, NoIm_seen, dg, LMS, LY, seval, reduceCtorEq, implies_true]); first | done | exact True.intro | rfl)) (by simp only [LA6, hv, Sim_seen, NoIm_seen, dg, LMS, LX, implies_true]) (by simp only [LA6, hv, Sim_seen, NoIm_seen, dg, LMS, LX, implies_true]) ?_
            (simp (maxSteps := 4000000) only [LA6, hv, ren_seen, LM, w0, LZ, seval, reduceCtorEq, forall_const])
            refine ⟨(i + 1, false), by show i + 1 ≤ n; omega, hnext hhl, by show n - (i + 1) < n - i; omega, ?_⟩
            show Weak M x _ _ _ _ (Sh 6 (its ok s (i + 1))) 7
            rw [hσ']
            refine Weak.fr [0, 1, 2, 3, 4, 5, 6] [] hx (by simp only [fr_length]) (by decide) ?_ ?_
            · simp only [LY, seval, reduceCtorEq, implies_true]
            · simp only [LA6, hv, Sim_seen, dg, LMS, LY, seval, reduceCtorEq, implies_true]
          · have hm : Runs M 70 [.ptr 5 [], .ptr 0 []] _ _ _ := h
            simp only [Sh, hv σ.m, hhl] at hm
            refine call_mA [0, 1, 2, 3, 4, 5, 6] (hm) (by decide) (by rfl) (by ((try simp only [LA6, hv, Sim_seen, NoIm_seen, dg, LMS, LY, seval, reduceCtorEq, implies_true]); first | done | exact True.intro | rfl)) (by ((try simp only [LA6, hv, Sim_seen, NoIm_seen, dg, LMS, LY, seval, reduceCtorEq, implies_true]); first | done | exact True.intro | rfl)) (by simp only [LA6, hv, Sim_seen, NoIm_seen, dg, LMS, LX, implies_true]) (by simp only [LA6, hv, Sim_seen, NoIm_seen, dg, LMS, LX, implies_true]) ?_
            (simp (maxSteps := 4000000) only [LA6, hv, ren_seen, LM, w0, LZ, seval, reduceCtorEq, forall_const])
            refine ⟨(i + 1, true), by show i + 1 ≤ n; omega, hnext hhl, by show n - (i + 1) < n - i; omega, ?_⟩
            show Weak M x _ _ _ _ (Sh 7 (its ok s (i + 1))) 8
            rw [hσ']
            refine Weak.fr [0, 1, 2, 3, 4, 5, 6, 199] [] hx (by simp only [fr_length]) (by decide) ?_ ?_
            · simp only [LY, seval, reduceCtorEq, implies_true]
            · simp only [LA6, hv, Sim_seen, dg, LMS, LY, seval, reduceCtorEq, implies_true]
      · have d0 : ((i : Int) < (n : Int)) = False := eq_false (by omega)
        obtain ⟨q1, q2⟩ := hfin (.inl (by omega))
        rw [q1, q2]
        (simp (maxSteps := 4000000) only [d0, LA6, bF, hv, LZ, seval, reduceCtorEq, forall_const])
        refine RetS.mk hx [0, 1, 2, 3, 4, 5, 6] [] _ _ _ (by decide) (by (simp only [LV, LZ, seval, reduceCtorEq, forall_const])) (by ((try simp only [LV, LZ, seval, reduceCtorEq, forall_const, LY, seval, reduceCtorEq, implies_true]); first | done | exact True.intro | (intros; rfl))) (by ((try simp only [d0, LA6, hv, Sim_seen, dg, LMS, LY, seval, reduceCtorEq, implies_true]); first | done | exact True.intro | (intros; rfl))) ⟨rfl, Or.inl ⟨rfl, rfl⟩⟩
    · show ex M x _ _ _ 8 _ (Sh 7 σ)
      by_cases hin : i < n
      · have d0 : ((i : Int) < (n : Int)) = True := eq_true (by omega)
        cases hhl : σ.m.hl with
        | true =>
          obtain ⟨q1, q2⟩ := hfin (.inr hhl)
          rw [q1, q2]
          (simp (maxSteps := 4000000) only [d0, hhl, LA6, bF, hv, LZ, seval, reduceCtorEq, forall_const])
          refine RetS.mk hx [0, 1, 2, 3, 4, 5, 6, 7] [] _ _ _ (by decide) (by (simp only [LV, LZ, seval, reduceCtorEq, forall_const])) (by ((try simp only [LV, LZ, seval, reduceCtorEq, forall_const, LY, seval, reduceCtorEq, implies_true]); first | done | exact True.intro | (intros; rfl))) (by ((try simp only [d0, hhl, LA6, hv, Sim_seen, dg, LMS, LY, seval, reduceCtorEq, implies_true]); first | done | exact True.intro | (intros; rfl))) ⟨rfl, Or.inr ⟨rfl, rfl⟩⟩
        | false =>
          (simp (maxSteps := 4000000) only [d0, LA6, hv, hhl, LZ, seval, reduceCtorEq, forall_const])
          rcases hst.1 with ⟨h, hw⟩ | ⟨h0, -, -⟩ | ⟨h0, -, -⟩ | ⟨h0, h1', h⟩ | ⟨h0, h1', h⟩
          · have hm : Runs M 70 [.ptr 0 [], .ptr 1 []] [(0, σ.m.v)] 2 _ := h
            rw [hv σ.m, hhl] at hm
            have w1 : σ'.w = σ.w := by rw [hw]
            have w2 : σ'.l = σ.l := by rw [hw]
            have w3 : σ'.n = σ.n := by rw [hw]
            have w4 : σ'.q = σ.q := by rw [hw]
            clear hw
            refine call_mB [5, 0] [5] (hm) (by rfl) (by rfl) (by decide) (by rfl) (by rfl) (by ((try simp only [mach, hv, LY, seval, reduceCtorEq, implies_true]); first | done | exact True.intro | rfl)) (by ((try simp only [mach, hv, LY, seval, reduceCtorEq, implies_true]); first | done | exact True.intro | rfl)) (by simp only [mach, hv, LX, implies_true]) (by simp only [mach, hv, LX, implies_true]) ?_
            (simp (maxSteps := 4000000) only [LA6, hv, ren_seen, LM, w0, LZ, seval, reduceCtorEq, forall_const])
            refine ⟨(i + 1, true), by show i + 1 ≤ n; omega, hnext hhl, by show n - (i + 1) < n - i; omega, ?_⟩
            show Weak M x _ _ _ _ (Sh 7 (its ok s (i + 1))) 8
            rw [hσ']
            refine Weak.fr [0, 1, 2, 3, 4, 5, 6, 7] [] hx (by simp only [fr_length]) (by decide) ?_ ?_
            · simp only [LY, seval, reduceCtorEq, implies_true]
            · simp only [w1, w2, w3, w4, LA6, hv, Sim_seen, dg, LMS, LY, seval, reduceCtorEq, implies_true]
          · omega
          · omega
          · have hm : Runs M 70 [.ptr 5 [], .ptr 0 []] _ _ _ := h
            simp only [Sh, hv σ.m, hhl] at hm
            refine call_mA [0, 1, 2, 3, 4, 5, 7] (hm) (by decide) (by rfl) (by ((try simp only [LA6, hv, Sim_seen, NoIm_seen, dg, LMS, LY, seval, reduceCtorEq, implies_true]); first | done | exact True.intro | rfl)) (by ((try simp only [LA6, hv, Sim_seen, NoIm_seen, dg, LMS, LY, seval, reduceCtorEq, implies_true]); first | done | exact True.intro | rfl)) (by simp only [LA6, hv, Sim_seen, NoIm_seen, dg, LMS, LX, implies_true]) (by simp only [LA6, hv, Sim_seen, NoIm_seen, dg, LMS, LX, implies_true]) ?_
            (simp (maxSteps := 4000000) only [LA6, hv, ren_seen, LM, w0, LZ, seval, reduceCtorEq, forall_const])
            refine ⟨(i + 1, true), by show i + 1 ≤ n; omega, hnext hhl, by show n - (i + 1) < n - i; omega, ?_⟩
            show Weak M x _ _ _ _ (Sh 7 (its ok s (i + 1))) 8
            rw [hσ']
            refine Weak.fr [0, 1, 2, 3, 4, 5, 6, 7] [] hx (by simp only [fr_length]) (by decide) ?_ ?_
            · simp only [LY, seval, reduceCtorEq, implies_true]
            · simp only [LA6, hv, Sim_seen, dg, LMS, LY, seval, reduceCtorEq, implies_true]
          · have hm : Runs M 70 [.ptr 5 [], .ptr 0 []] _ _ _ := h
            simp only [Sh, hv σ.m, hhl] at hm
            refine call_mA [0, 1, 2, 3, 4, 5, 7] (hm) (by decide) (by rfl) (by ((try simp only [LA6, hv, Sim_seen, NoIm_seen, dg, LMS, LY, seval, reduceCtorEq, implies_true]); first | done | exact True.intro | rfl)) (by ((try simp only [LA6, hv, Sim_seen, NoIm_seen, dg, LMS, LY, seval, reduceCtorEq, implies_true]); first | done | exact True.intro | rfl)) (by simp only [LA6, hv, Sim_seen, NoIm_seen, dg, LMS, LX, implies_true]) (by simp only [LA6, hv, Sim_seen, NoIm_seen, dg, LMS, LX, implies_true]) ?_
            (simp (maxSteps := 4000000) only [LA6, hv, ren_seen, LM, w0, LZ, seval, reduceCtorEq, forall_const])
            refine ⟨(i + 1, true), by show i + 1 ≤ n; omega, hnext hhl, by show n - (i + 1) < n - i; omega, ?_⟩
            show Weak M x _ _ _ _ (Sh 7 (its ok s (i + 1))) 8
            rw [hσ']
            refine Weak.fr [0, 1, 2, 3, 4, 5, 6, 200] [] hx (by simp only [fr_length]) (by decide) ?_ ?_
            · simp only [LY, seval, reduceCtorEq, implies_true]
            · simp only [LA6, hv, Sim_seen, dg, LMS, LY, seval, reduceCtorEq, implies_true]
      · have d0 : ((i : Int) < (n : Int)) = False := eq_false (by omega)
        obtain ⟨q1, q2⟩ := hfin (.inl (by omega))
        rw [q1, q2]
        (simp (maxSteps := 4000000) only [d0, LA6, bF, hv, LZ, seval, reduceCtorEq, forall_const])
        refine RetS.mk hx [0, 1, 2, 3, 4, 5, 6, 7] [] _ _ _ (by decide) (by (simp only [LV, LZ, seval, reduceCtorEq, forall_const])) (by ((try simp only [LV, LZ, seval, reduceCtorEq, forall_const, LY, seval, reduceCtorEq, implies_true]); first | done | exact True.intro | (intros; rfl))) (by ((try simp only [d0, LA6, hv, Sim_seen, dg, LMS, LY, seval, reduceCtorEq, implies_true]); first | done | exact True.intro | (intros; rfl))) ⟨rfl, Or.inr ⟨rfl, rfl⟩⟩
end Mv
