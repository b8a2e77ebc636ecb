/- VmRuns. -/
import Derived.Test.YtfoaeafobdamcaaDoorW1
import Derived.Test.YtfoaeafobdamcaaDoorV1
import Derived.Test.YtfoaeafobdamcaaDoorV2
import Derived.Test.YtfoaeafobdamcaaDoorY3
import Derived.Test.YtfoaeafobdamcaaDoorW4
import Derived.Test.YtfoaeafobdamcaaDoorDl
set_option linter.unusedSimpArgs false
set_option linter.unusedVariables false
namespace Mv
open Go
set_option maxRecDepth 20000
set_option maxHeartbeats 4000000
set_option linter.unusedSimpArgs false

/-- A store with a machine, 0 to 5; a machine, 6; what was asked, 8. -/
noncomputable def HR (a : Mc) (s : SM) : Hp := if s.n = 0 then stoH' s.w .nils s.l ++ [(5, s.m.v), (6, a.v)] else stoH' s.w (.sl 8 [] 0 s.n 32) s.l ++ [(5, s.m.v), (6, a.v), (8, .ar 32 s.n fun i => dg (s.q i))]
noncomputable def kR (s : SM) : Nat := if s.n = 0 then 8 else 9
def vrL : LC := (.seq (.reg [A1 76 (.ari .lss (.t 75) (.t 74))])
 ((.seq (.cond (.t 76) (.skip) (.exit 0))
 ((.seq (.block 1 ((.seq ((.seq (.reg [A1 77 (.mv (.t 11)),
  A1 78 (.nilc (.t 77)),
  A1 79 (.fadr 8209 (.t 78)),
  A1 80 (.load false 1 (.t 79)),
  A1 81 (.un .not (.t 80))])
 (.cond (.t 81) (.reg [A1 82 (.mv (.t 15)),
  A1 83 (.ari .add (.t 82) (.c (.int .i64 1))),
  A1 15 (.mv (.t 83))]) (.skip))))
 ((.seq (.reg [A1 84 (.mv (.t 11)),
  A1 85 (.mv (.t 14)),
  ⟨(some 86), .call 70 [(.t 84), (.t 85)], none⟩,
  A1 87 (.eq true true (.iface [74]) (.t 86) (.c .nili))])
 (.cond (.t 87) ((.seq (.reg [A1 6 (.mv (.c (.bool false)))])
 (.ret))) (.skip)))))))
 (.reg [A1 88 (.ari .add (.t 75) (.c (.int .i64 1))),
  A1 75 (.mv (.t 88))]))))))
theorem vr_loop {M : Seat} (okV : OkVR M) (ok : OkT M) (s : SM) (hs : s.n = 0) (n : Nat) (hn : n < 300) (more : Int) {x : Ctx} (hx : x.k = 0) {A : List V} {H : Hp} {N : Nat}
    (hw : Weak M x A H N (fr 229 [(1, .int .i64 n), (2, .int .i64 more), (7, .ptr 7 []), (9, .ptr 6 []), (10, .nili), (11, .ptr 5 []), (13, .int .i64 (cnt ok s n)), (14, .ptr 0 []), (15, .int .i64 (0 : Nat)), (74, .int .i64 n), (75, .int .i64 (0 : Nat))]) (stoH' s.w .nils s.l ++ [(5, s.m.v), (6, (its ok s n).m.v)]) 8) :
    LoopK M x (RetS M x [RVr.tmp 6] fun r H' k' => r = .bool true ∧ H' = [] ∧ k' = 0) vrL [.blk 0, .code vrT] A H N := by
  have hv : ∀ m : Mc, m.v = mach m.f m.g m.pc m.hl m.xt := fun _ => rfl
  have hs0 : s.n < 549755813888 := by omega
  have hk : (its ok s n).m.hl = false → cnt ok s n = n := fun h => cnt_all ok s n fun j hj hl => by
    have := its_h ok s hs0 j hl n (by omega) (by omega)
    rw [this, hl] at h
    exact absurd h (by decide)
  have hst := fun i (hi : i < 549755813888) => its_R ok s hs0 i hi
  have hT0 : its ok s 0 = s := rfl
  have hh : ∀ i, i < 300 → (its ok s i).m.hl = true → its ok s (i + 1) = its ok s i := fun i hi h => its_h ok s hs0 i h (i + 1) (by omega) (by omega)
  have hc1 : ∀ i, (its ok s i).m.hl = true → cnt ok s (i + 1) = cnt ok s i := fun i h => by rw [cnt, if_pos h]
  have hc2 : ∀ i, (its ok s i).m.hl = false → cnt ok s (i + 1) = cnt ok s i + 1 := fun i h => by rw [cnt, if_neg (by rw [h]; decide)]
  have hcl := cnt_le ok s
  have hc0 : cnt ok s 0 = 0 := rfl
  generalize its ok s = T at *
  generalize cnt ok s = C at *
  refine loop_rule (σ := Nat) (fun i => i ≤ n) (fun i => fr 229 [(1, .int .i64 n), (2, .int .i64 more), (7, .ptr 7 []), (9, .ptr 6 []), (10, .nili), (11, .ptr 5 []), (13, .int .i64 (C n)), (14, .ptr 0 []), (15, .int .i64 (C i)), (74, .int .i64 n), (75, .int .i64 i)]) (fun i => HR (T n).m (T i)) (fun i => kR (T i)) (fun i => n - i) 0 (by omega) ?_ ?_
  · have h1 : HR (T n).m (T 0) = _ := if_pos (by rw [hT0]; exact hs)
    have h2 : kR (T 0) = 8 := if_pos (by rw [hT0]; exact hs)
    rw [h1, h2, hT0, hc0]
    exact hw
  · intro i hi
    have hci := hcl i
    have hst := hst i
    have w0 : IntKind.i64.wrap ((i : Int) + 1) = ((i + 1 : Nat) : Int) := by rw [wrap_i64 (by omega)]; omega
    have w1 : IntKind.i64.wrap ((C i : Int) + 1) = ((C i + 1 : Nat) : Int) := by rw [wrap_i64 (by omega)]; omega
    by_cases hin : i = n
    · subst hin
      have d0 : ((i : Int) < (i : Int)) = False := eq_false (by omega)
      refine ex_sound 5 _ _ _ _ ?_
      by_cases hz : (T i).n = 0
      · have h1 : HR (T i).m (T i) = _ := if_pos hz
        have h2 : kR (T i) = 8 := if_pos hz
        rw [h1, h2]
        (simp (maxSteps := 4000000) only [vrL, d0, LA6, hv, LZ, seval, reduceCtorEq, forall_const])
        refine vr_tail ok.okA ok.ok.toOkV okV (T i).m i (C i) hk more hx ?_
        refine Weak.fr [6, 7, 5] [] hx (by simp only [fr_length]) (by decide) ?_ ?_
        · simp only [LY, seval, reduceCtorEq, implies_true]
        · simp only [hv, mach, LY, seval, reduceCtorEq, implies_true]
      · have h1 : HR (T i).m (T i) = _ := if_neg hz
        have h2 : kR (T i) = 9 := if_neg hz
        rw [h1, h2]
        (simp (maxSteps := 4000000) only [vrL, d0, LA6, hv, LZ, seval, reduceCtorEq, forall_const])
        refine vr_tail ok.okA ok.ok.toOkV okV (T i).m i (C i) hk more hx ?_
        refine Weak.fr [6, 7, 5] [] hx (by simp only [fr_length]) (by decide) ?_ ?_
        · simp only [LY, seval, reduceCtorEq, implies_true]
        · simp only [hv, mach, LY, seval, reduceCtorEq, implies_true]
    · have d0 : ((i : Int) < (n : Int)) = True := eq_true (by omega)
      refine ex_sound 2000 _ _ _ _ ?_
      have hst := hst (by omega)
      generalize T n = τ
      by_cases hz : (T i).n = 0
      · have h1 : HR τ.m (T i) = _ := if_pos hz
        have h2 : kR (T i) = 8 := if_pos hz
        rw [h1, h2]
        cases hhl : (T i).m.hl
        case' true =>
          (simp (maxSteps := 4000000) only [vrL, d0, LA6, hv, hhl, LZ, seval, reduceCtorEq, forall_const])
          refine call_mB [5, 0] [5] (runs_StepHalted ok.ok.toOkV (T i).m.f (T i).m.g (T i).m.pc (T i).m.xt) (by rfl) (by rfl) (by decide) (by rfl) (by rfl) (by ((try simp only [mach, hv, LY, seval, reduceCtorEq, implies_true]); first | done | exact True.intro | rfl)) (by ((try simp only [mach, hv, LY, seval, reduceCtorEq, implies_true]); first | done | exact True.intro | rfl)) (by simp only [mach, hv, LX, implies_true]) (by simp only [mach, hv, LX, implies_true]) ?_
          (simp (maxSteps := 4000000) only [LA6, hv, ren_seen, LM, w0, LZ, seval, reduceCtorEq, forall_const])
          refine ⟨i + 1, by omega, by omega, ?_⟩
          rw [hh i (by omega) hhl, h1, h2, hc1 i hhl]
          refine Weak.fr [0, 1, 2, 3, 4, 5, 6, 7] [] hx (by simp only [fr_length]) (by decide) ?_ ?_
          · simp only [LY, seval, reduceCtorEq, implies_true]
          · simp only [hhl, LA6, hv, Sim_seen, dg, LMS, LY, seval, reduceCtorEq, implies_true]
        have e1 := hc2 i hhl
        (simp (maxSteps := 4000000) only [vrL, d0, w1, LA6, hv, hhl, LZ, seval, reduceCtorEq, forall_const])
        rcases hst.1 with ⟨h, hw⟩ | ⟨-, h1', h⟩ | ⟨-, h1', h⟩ | ⟨h0, -, -⟩ | ⟨h0, -, -⟩
        · have hm : Runs M 70 [.ptr 0 [], .ptr 1 []] [(0, (T i).m.v)] 2 _ := h
          rw [hv (T i).m, hhl] at hm
          have w1 : (T (i + 1)).w = (T i).w := by rw [hw]
          have w2 : (T (i + 1)).l = (T i).l := by rw [hw]
          have w3 : (T (i + 1)).n = (T i).n := by rw [hw]
          have w4 : (T (i + 1)).q = (T i).q := by rw [hw]
          clear hw
          refine call_mB [5, 0] [5] (hm) (by rfl) (by rfl) (by decide) (by rfl) (by rfl) (by ((try simp only [mach, hv, LY, seval, reduceCtorEq, implies_true]); first | done | exact True.intro | rfl)) (by ((try simp only [mach, hv, LY, seval, reduceCtorEq, implies_true]); first | done | exact True.intro | rfl)) (by simp only [mach, hv, LX, implies_true]) (by simp only [mach, hv, LX, implies_true]) ?_
          (simp (maxSteps := 4000000) only [LA6, hv, ren_seen, LM, w0, LZ, seval, reduceCtorEq, forall_const])
          refine ⟨i + 1, by omega, by omega, ?_⟩
          have h3 : HR τ.m (T (i + 1)) = _ := if_pos (by rw [w3]; exact hz)
          have h4 : kR (T (i + 1)) = 8 := if_pos (by rw [w3]; exact hz)
          rw [h3, h4, e1]
          refine Weak.fr [0, 1, 2, 3, 4, 5, 6, 7] [] hx (by simp only [fr_length]) (by decide) ?_ ?_
          · simp only [LY, seval, reduceCtorEq, implies_true]
          · simp only [w1, w2, w3, w4, LA6, hv, Sim_seen, dg, LMS, LY, seval, reduceCtorEq, implies_true]
        · have hm : Runs M 70 [.ptr 5 [], .ptr 0 []] _ _ _ := h
          simp only [LA6, hv, hhl] at hm
          refine call_mA [0, 1, 2, 3, 4, 5] (hm) (by decide) (by rfl) (by ((try simp only [LA6, hv, Sim_seen, NoIm_seen, dg, LMS, LY, seval, reduceCtorEq, implies_true]); first | done | exact True.intro | rfl)) (by ((try simp only [LA6, hv, Sim_seen, NoIm_seen, dg, LMS, LY, seval, reduceCtorEq, implies_true]); first | done | exact True.intro | rfl)) (by simp only [LA6, hv, Sim_seen, NoIm_seen, dg, LMS, LX, implies_true]) (by simp only [LA6, hv, Sim_seen, NoIm_seen, dg, LMS, LX, implies_true]) ?_
          (simp (maxSteps := 4000000) only [LA6, hv, ren_seen, LM, w0, LZ, seval, reduceCtorEq, forall_const])
          refine ⟨i + 1, by omega, by omega, ?_⟩
          have h3 : HR τ.m (T (i + 1)) = _ := if_pos h1'
          have h4 : kR (T (i + 1)) = 8 := if_pos h1'
          rw [h3, h4, e1]
          refine Weak.fr [0, 1, 2, 3, 4, 5, 6, 7] [] hx (by simp only [fr_length]) (by decide) ?_ ?_
          · simp only [LY, seval, reduceCtorEq, implies_true]
          · simp only [LA6, hv, Sim_seen, dg, LMS, LY, seval, reduceCtorEq, implies_true]
        · have hm : Runs M 70 [.ptr 5 [], .ptr 0 []] _ _ _ := h
          simp only [LA6, hv, hhl] at hm
          refine call_mA [0, 1, 2, 3, 4, 5] (hm) (by decide) (by rfl) (by ((try simp only [LA6, hv, Sim_seen, NoIm_seen, dg, LMS, LY, seval, reduceCtorEq, implies_true]); first | done | exact True.intro | rfl)) (by ((try simp only [LA6, hv, Sim_seen, NoIm_seen, dg, LMS, LY, seval, reduceCtorEq, implies_true]); first | done | exact True.intro | rfl)) (by simp only [LA6, hv, Sim_seen, NoIm_seen, dg, LMS, LX, implies_true]) (by simp only [LA6, hv, Sim_seen, NoIm_seen, dg, LMS, LX, implies_true]) ?_
          (simp (maxSteps := 4000000) only [LA6, hv, ren_seen, LM, w0, LZ, seval, reduceCtorEq, forall_const])
          refine ⟨i + 1, by omega, by omega, ?_⟩
          have h3 : HR τ.m (T (i + 1)) = _ := if_neg (by omega)
          have h4 : kR (T (i + 1)) = 9 := if_neg (by omega)
          rw [h3, h4, e1]
          refine Weak.fr [0, 1, 2, 3, 4, 5, 6, 7, 184] [] hx (by simp only [fr_length]) (by decide) ?_ ?_
          · simp only [LY, seval, reduceCtorEq, implies_true]
          · simp only [LA6, hv, Sim_seen, dg, LMS, LY, seval, reduceCtorEq, implies_true]
        · omega
        · omega
      · have h1 : HR τ.m (T i) = _ := if_neg hz
        have h2 : kR (T i) = 9 := if_neg hz
        rw [h1, h2]
        cases hhl : (T i).m.hl
        case' true =>
          (simp (maxSteps := 4000000) only [vrL, d0, LA6, hv, hhl, LZ, seval, reduceCtorEq, forall_const])
          refine call_mB [5, 0] [5] (runs_StepHalted ok.ok.toOkV (T i).m.f (T i).m.g (T i).m.pc (T i).m.xt) (by rfl) (by rfl) (by decide) (by rfl) (by rfl) (by ((try simp only [mach, hv, LY, seval, reduceCtorEq, implies_true]); first | done | exact True.intro | rfl)) (by ((try simp only [mach, hv, LY, seval, reduceCtorEq, implies_true]); first | done | exact True.intro | rfl)) (by simp only [mach, hv, LX, implies_true]) (by simp only [mach, hv, LX, implies_true]) ?_
          (simp (maxSteps := 4000000) only [LA6, hv, ren_seen, LM, w0, LZ, seval, reduceCtorEq, forall_const])
          refine ⟨i + 1, by omega, by omega, ?_⟩
          rw [hh i (by omega) hhl, h1, h2, hc1 i hhl]
          refine Weak.fr [0, 1, 2, 3, 4, 5, 6, 7, 8] [] hx (by simp only [fr_length]) (by decide) ?_ ?_
          · simp only [LY, seval, reduceCtorEq, implies_true]
          · simp only [hhl, LA6, hv, Sim_seen, dg, LMS, LY, seval, reduceCtorEq, implies_true]
        have e1 := hc2 i hhl
        (simp (maxSteps := 4000000) only [vrL, d0, w1, LA6, hv, hhl, LZ, seval, reduceCtorEq, forall_const])
        rcases hst.1 with ⟨h, hw⟩ | ⟨h0, -, -⟩ | ⟨h0, -, -⟩ | ⟨h0, h1', h⟩ | ⟨h0, h1', h⟩
        · have hm : Runs M 70 [.ptr 0 [], .ptr 1 []] [(0, (T i).m.v)] 2 _ := h
          rw [hv (T i).m, hhl] at hm
          have w1 : (T (i + 1)).w = (T i).w := by rw [hw]
          have w2 : (T (i + 1)).l = (T i).l := by rw [hw]
          have w3 : (T (i + 1)).n = (T i).n := by rw [hw]
          have w4 : (T (i + 1)).q = (T i).q := by rw [hw]
          clear hw
          refine call_mB [5, 0] [5] (hm) (by rfl) (by rfl) (by decide) (by rfl) (by rfl) (by ((try simp only [mach, hv, LY, seval, reduceCtorEq, implies_true]); first | done | exact True.intro | rfl)) (by ((try simp only [mach, hv, LY, seval, reduceCtorEq, implies_true]); first | done | exact True.intro | rfl)) (by simp only [mach, hv, LX, implies_true]) (by simp only [mach, hv, LX, implies_true]) ?_
          (simp (maxSteps := 4000000) only [LA6, hv, ren_seen, LM, w0, LZ, seval, reduceCtorEq, forall_const])
          refine ⟨i + 1, by omega, by omega, ?_⟩
          have h3 : HR τ.m (T (i + 1)) = _ := if_neg (by rw [w3]; exact hz)
          have h4 : kR (T (i + 1)) = 9 := if_neg (by rw [w3]; exact hz)
          rw [h3, h4, e1]
          refine Weak.fr [0, 1, 2, 3, 4, 5, 6, 7, 8] [] hx (by simp only [fr_length]) (by decide) ?_ ?_
          · simp only [LY, seval, reduceCtorEq, implies_true]
          · simp only [w1, w2, w3, w4, LA6, hv, Sim_seen, dg, LMS, LY, seval, reduceCtorEq, implies_true]
        · exact absurd h0 hz
        · exact absurd h0 hz
        · have hm : Runs M 70 [.ptr 5 [], .ptr 0 []] _ _ _ := h
          simp only [LA6, hv, hhl] at hm
          refine call_mA [0, 1, 2, 3, 4, 5, 8] (hm) (by decide) (by rfl) (by ((try simp only [LA6, hv, Sim_seen, NoIm_seen, dg, LMS, LY, seval, reduceCtorEq, implies_true]); first | done | exact True.intro | rfl)) (by ((try simp only [LA6, hv, Sim_seen, NoIm_seen, dg, LMS, LY, seval, reduceCtorEq, implies_true]); first | done | exact True.intro | rfl)) (by simp only [LA6, hv, Sim_seen, NoIm_seen, dg, LMS, LX, implies_true]) (by simp only [LA6, hv, Sim_seen, NoIm_seen, dg, LMS, LX, implies_true]) ?_
          (simp (maxSteps := 4000000) only [LA6, hv, ren_seen, LM, w0, LZ, seval, reduceCtorEq, forall_const])
          refine ⟨i + 1, by omega, by omega, ?_⟩
          have h3 : HR τ.m (T (i + 1)) = _ := if_neg (by omega)
          have h4 : kR (T (i + 1)) = 9 := if_neg (by omega)
          rw [h3, h4, e1]
          refine Weak.fr [0, 1, 2, 3, 4, 5, 6, 7, 8] [] hx (by simp only [fr_length]) (by decide) ?_ ?_
          · simp only [LY, seval, reduceCtorEq, implies_true]
          · simp only [LA6, hv, Sim_seen, dg, LMS, LY, seval, reduceCtorEq, implies_true]
        · have hm : Runs M 70 [.ptr 5 [], .ptr 0 []] _ _ _ := h
          simp only [LA6, hv, hhl] at hm
          refine call_mA [0, 1, 2, 3, 4, 5, 8] (hm) (by decide) (by rfl) (by ((try simp only [LA6, hv, Sim_seen, NoIm_seen, dg, LMS, LY, seval, reduceCtorEq, implies_true]); first | done | exact True.intro | rfl)) (by ((try simp only [LA6, hv, Sim_seen, NoIm_seen, dg, LMS, LY, seval, reduceCtorEq, implies_true]); first | done | exact True.intro | rfl)) (by simp only [LA6, hv, Sim_seen, NoIm_seen, dg, LMS, LX, implies_true]) (by simp only [LA6, hv, Sim_seen, NoIm_seen, dg, LMS, LX, implies_true]) ?_
          (simp (maxSteps := 4000000) only [LA6, hv, ren_seen, LM, w0, LZ, seval, reduceCtorEq, forall_const])
          refine ⟨i + 1, by omega, by omega, ?_⟩
          have h3 : HR τ.m (T (i + 1)) = _ := if_neg (by omega)
          have h4 : kR (T (i + 1)) = 9 := if_neg (by omega)
          rw [h3, h4, e1]
          refine Weak.fr [0, 1, 2, 3, 4, 5, 6, 7, 185] [] hx (by simp only [fr_length]) (by decide) ?_ ?_
          · simp only [LY, seval, reduceCtorEq, implies_true]
          · simp only [LA6, hv, Sim_seen, dg, LMS, LY, seval, reduceCtorEq, implies_true]
end Mv
namespace Mv
open Go
set_option maxRecDepth 20000
set_option maxHeartbeats 4000000
set_option linter.unusedSimpArgs false

/-- A list of instructions, as an argument. -/
def insA (l : List In) (v : V) : Prop := v = insL l ∨ (v = .nils ∧ l = [])
/-- The machine that its words make. -/
def ldM (l : List In) : Mc := ⟨memW (min l.length 8192) (fun j => wordOf (l.getD j default)), fun _ => 0#64, 0#64, false, 0#64⟩
def st0 (l : List In) : SM := ⟨wNew 16, [], 0, fun _ => Dg.zero, ldM l⟩

theorem runs_VmRuns {M : Seat} (ok : OkT M) (okR : OkR M) (okB : OkB M) (okV : OkVR M) (l : List In) (v : V) (hv : insA l v) (hl : l.length < 9223372036854775808) (n more : Int) :
    Runs M 10 [v, .int .i64 n, .int .i64 more] [] 0 (fun r H' k' => r = .bool true ∧ H' = [] ∧ k' = 0) := by
  refine runs_fr okV.k10 rfl fun x hx => ?_
  have okA := ok.okA
  have okW := ok.ok.toOkW
  have okI := okW.toOkI
  have okS := okI.toOkV.toOkS
  have hLN : l = [] → Runs M 74 [.nils] [] 0 (fun r H' k' => r = tup2 (.ptr 0 []) .nili ∧ H' = [(0, (ldM l).v)] ∧ k' = 1) := fun h => by subst h; exact runs_Load okA
  have hWN : l = [] → Runs M 75 [insL l] [] 0 (fun r H' k' => r = .nils ∧ H' = [] ∧ k' = 0) := fun h => by subst h; exact runs_WordsNil okI _ (.inr rfl)
  have hv' : (v = .nils ∧ l = []) ∨ (v = insL l ∧ l = []) ∨ (v = insL l ∧ 0 < l.length) := by
    rcases hv with h | h
    · by_cases h0 : l = []
      · exact .inr (.inl ⟨h, h0⟩)
      · exact .inr (.inr ⟨h, List.length_pos_iff.2 h0⟩)
    · exact .inl h
  have hRv : ∀ (m : Mc) a, m.v.ren a = m.v := fun _ _ => rfl
  have hNv : ∀ m : Mc, NoIm m.v := fun m => by simp only [Mc.v, mach, NoIm, NoIm_W, implies_true, and_self]
  have hSv : ∀ (m : Mc) H a z, Sim H a z m.v m.v := fun m H a z => by simp only [Mc.v, mach, LY, seval, reduceCtorEq, implies_true]
  have hFv : ∀ m : Mc, m.v = mach m.f m.g m.pc m.hl m.xt := fun _ => rfl
  have hm := m300_lt n
  rcases hv' with ⟨rfl, h0⟩ | ⟨rfl, h0⟩ | ⟨rfl, h0⟩
  case' inl =>
    refine ex_sound 2000 _ _ _ _ ?_; (simp (maxSteps := 4000000) only [f10, c10, LZ, seval, reduceCtorEq, forall_const])
    refine call_fA (runs_StoresN okA okS okB okR) (by decide) (by ((try simp only [tup2, stoH', stoV, kinV, rs5, rstV, dg, LMS, NoIm_seen, List.cons_append, List.nil_append, LY, seval, reduceCtorEq, implies_true]); first | done | exact True.intro | rfl)) (by simp only [tup2, stoH', stoV, kinV, rs5, rstV, dg, LMS, NoIm_seen, List.cons_append, List.nil_append, LX, implies_true]) (by simp only [tup2, stoH', stoV, kinV, rs5, rstV, dg, LMS, NoIm_seen, List.cons_append, List.nil_append, LX, implies_true]) ?_
    (simp (maxSteps := 4000000) only [tup2, stoH', stoV, kinV, rs5, rstV, dg, List.cons_append, List.nil_append, ren_seen, LM, LZ, seval, reduceCtorEq, forall_const])
    refine call_pZ (runs_WordsNil okI .nils (.inl rfl)) ?_
    (simp (maxSteps := 4000000) only [LZ, seval, reduceCtorEq, forall_const])
    refine call_fA (hLN h0) (by decide) (by ((try simp only [hNv, hSv, LY, seval, reduceCtorEq, implies_true]); first | done | exact True.intro | rfl)) (by simp only [hNv, hSv, LX, implies_true]) (by simp only [hNv, hSv, LX, implies_true]) ?_
    (simp (maxSteps := 4000000) only [tup2, hRv, LZ, seval, reduceCtorEq, forall_const])
    refine call_pZ (runs_WordsNil okI .nils (.inl rfl)) ?_
    (simp (maxSteps := 4000000) only [LZ, seval, reduceCtorEq, forall_const])
    refine call_fA (hLN h0) (by decide) (by ((try simp only [hNv, hSv, LY, seval, reduceCtorEq, implies_true]); first | done | exact True.intro | rfl)) (by simp only [hNv, hSv, LX, implies_true]) (by simp only [hNv, hSv, LX, implies_true]) ?_
    (simp (maxSteps := 4000000) only [tup2, hRv, LZ, seval, reduceCtorEq, forall_const])
  case' inr.inl =>
    refine ex_sound 2000 _ _ _ _ ?_; (simp (maxSteps := 4000000) only [f10, c10, LZ, seval, reduceCtorEq, forall_const])
    refine call_fA (runs_StoresN okA okS okB okR) (by decide) (by ((try simp only [tup2, stoH', stoV, kinV, rs5, rstV, dg, LMS, NoIm_seen, List.cons_append, List.nil_append, LY, seval, reduceCtorEq, implies_true]); first | done | exact True.intro | rfl)) (by simp only [tup2, stoH', stoV, kinV, rs5, rstV, dg, LMS, NoIm_seen, List.cons_append, List.nil_append, LX, implies_true]) (by simp only [tup2, stoH', stoV, kinV, rs5, rstV, dg, LMS, NoIm_seen, List.cons_append, List.nil_append, LX, implies_true]) ?_
    (simp (maxSteps := 4000000) only [tup2, stoH', stoV, kinV, rs5, rstV, dg, List.cons_append, List.nil_append, ren_seen, LM, LZ, seval, reduceCtorEq, forall_const])
    refine call_pA (hWN h0) (by ((try simp only [insL, insV, LY, seval, reduceCtorEq, implies_true]); first | done | exact True.intro | rfl)) (by first | rfl | (simp only [LN, LP, V.ren, tup2, tup3])) (by simp only [insL, insV, LX, implies_true]) ?_
    (simp (maxSteps := 4000000) only [LZ, seval, reduceCtorEq, forall_const])
    refine call_fA (hLN h0) (by decide) (by ((try simp only [hNv, hSv, LY, seval, reduceCtorEq, implies_true]); first | done | exact True.intro | rfl)) (by simp only [hNv, hSv, LX, implies_true]) (by simp only [hNv, hSv, LX, implies_true]) ?_
    (simp (maxSteps := 4000000) only [tup2, hRv, LZ, seval, reduceCtorEq, forall_const])
    refine call_pA (hWN h0) (by ((try simp only [insL, insV, LY, seval, reduceCtorEq, implies_true]); first | done | exact True.intro | rfl)) (by first | rfl | (simp only [LN, LP, V.ren, tup2, tup3])) (by simp only [insL, insV, LX, implies_true]) ?_
    (simp (maxSteps := 4000000) only [LZ, seval, reduceCtorEq, forall_const])
    refine call_fA (hLN h0) (by decide) (by ((try simp only [hNv, hSv, LY, seval, reduceCtorEq, implies_true]); first | done | exact True.intro | rfl)) (by simp only [hNv, hSv, LX, implies_true]) (by simp only [hNv, hSv, LX, implies_true]) ?_
    (simp (maxSteps := 4000000) only [tup2, hRv, LZ, seval, reduceCtorEq, forall_const])
  case' inr.inr =>
    refine ex_sound 2000 _ _ _ _ ?_; (simp (maxSteps := 4000000) only [f10, c10, LZ, seval, reduceCtorEq, forall_const])
    have hW := runs_Words okI l h0 hl
    have hLL : Runs M 74 _ [] 0 (fun r H' k' => r = tup2 (.ptr 0 []) .nili ∧ H' = [(0, (ldM l).v)] ∧ k' = 1) := runs_LoadW okA (min l.length 8192) (Nat.min_le_right _ _) (fun j => wordOf (l.getD j default))
    refine call_fA (runs_StoresN okA okS okB okR) (by decide) (by ((try simp only [tup2, stoH', stoV, kinV, rs5, rstV, dg, LMS, NoIm_seen, List.cons_append, List.nil_append, LY, seval, reduceCtorEq, implies_true]); first | done | exact True.intro | rfl)) (by simp only [tup2, stoH', stoV, kinV, rs5, rstV, dg, LMS, NoIm_seen, List.cons_append, List.nil_append, LX, implies_true]) (by simp only [tup2, stoH', stoV, kinV, rs5, rstV, dg, LMS, NoIm_seen, List.cons_append, List.nil_append, LX, implies_true]) ?_
    (simp (maxSteps := 4000000) only [tup2, stoH', stoV, kinV, rs5, rstV, dg, List.cons_append, List.nil_append, ren_seen, LM, LZ, seval, reduceCtorEq, forall_const])
    refine call_fA (hW) (by decide) (by ((try simp only [insL, insV, LY, seval, reduceCtorEq, implies_true]); first | done | exact True.intro | rfl)) (by simp only [insL, insV, LX, implies_true]) (by simp only [insL, insV, LX, implies_true]) ?_
    (simp (maxSteps := 4000000) only [LZ, seval, reduceCtorEq, forall_const])
    refine call_fA (hLL) (by decide) (by ((try simp only [hNv, hSv, LY, seval, reduceCtorEq, implies_true]); first | done | exact True.intro | rfl)) (by simp only [hNv, hSv, LX, implies_true]) (by simp only [hNv, hSv, LX, implies_true]) ?_
    (simp (maxSteps := 4000000) only [tup2, hRv, LZ, seval, reduceCtorEq, forall_const])
    refine call_fA (hW) (by decide) (by ((try simp only [insL, insV, LY, seval, reduceCtorEq, implies_true]); first | done | exact True.intro | rfl)) (by simp only [insL, insV, LX, implies_true]) (by simp only [insL, insV, LX, implies_true]) ?_
    (simp (maxSteps := 4000000) only [LZ, seval, reduceCtorEq, forall_const])
    refine call_fA (hLL) (by decide) (by ((try simp only [hNv, hSv, LY, seval, reduceCtorEq, implies_true]); first | done | exact True.intro | rfl)) (by simp only [hNv, hSv, LX, implies_true]) (by simp only [hNv, hSv, LX, implies_true]) ?_
    (simp (maxSteps := 4000000) only [tup2, hRv, LZ, seval, reduceCtorEq, forall_const])
  all_goals
    refine call_pZ (runs_fixed10 okA okW) ?_
    (simp (maxSteps := 4000000) only [m300_int, LZ, seval, reduceCtorEq, forall_const])
    have hr0 := runs_RunF ok (st0 l) rfl (m300 n) (by omega)
    have hlp := @vr_loop M okV ok (st0 l) rfl (m300 n) hm more x hx
    generalize its ok (st0 l) (m300 n) = σ at *
    generalize cnt ok (st0 l) (m300 n) = C at *
    by_cases hz : σ.n = 0
    case' pos =>
      rw [show hdF σ = Nh σ from if_pos hz, show kdF σ = 6 from if_pos hz] at hr0
      have hq : Runs M 71 [.ptr 5 [], .ptr 0 [], .int .i64 (m300 n)] _ _ _ := hr0
    case' neg =>
      rw [show hdF σ = Sh 6 σ from if_neg hz, show kdF σ = 7 from if_neg hz] at hr0
      have hq : Runs M 71 [.ptr 5 [], .ptr 0 [], .int .i64 (m300 n)] _ _ _ := hr0
    all_goals
      simp only [LA6, st0] at hq
      refine call_mA [16, 17, 18, 19, 20, 144] (hq) (by decide) (by rfl) (by ((try simp only [LA6, hSv, hNv, Sim_seen, NoIm_seen, dg, LMS, LY, seval, reduceCtorEq, implies_true]); first | done | exact True.intro | rfl)) (by ((try simp only [LA6, hSv, hNv, Sim_seen, NoIm_seen, dg, LMS, LY, seval, reduceCtorEq, implies_true]); first | done | exact True.intro | rfl)) (by simp only [LA6, hSv, hNv, Sim_seen, NoIm_seen, dg, LMS, LX, implies_true]) (by simp only [LA6, hSv, hNv, Sim_seen, NoIm_seen, dg, LMS, LX, implies_true]) ?_
      (simp (maxSteps := 4000000) only [LA6, hRv, ren_seen, LM, tup2, LZ, seval, reduceCtorEq, forall_const])
      refine call_fA (runs_New okA okS) (by decide) (by ((try simp only [stoH', stoV, kinV, LMS, NoIm_seen, LY, seval, reduceCtorEq, implies_true]); first | done | exact True.intro | rfl)) (by simp only [stoH', stoV, kinV, LMS, NoIm_seen, LX, implies_true]) (by simp only [stoH', stoV, kinV, LMS, NoIm_seen, LX, implies_true]) ?_
      (simp (maxSteps := 4000000) only [stoH', stoV, kinV, ren_seen, LM, hRv, LZ, seval, reduceCtorEq, forall_const])
      refine hlp ?_
      refine Weak.fr [944, 945, 946, 947, 948, 272, 144, 16] [] hx (by simp only [fr_length]) (by decide) ?_ ?_
      · simp only [LY, seval, reduceCtorEq, implies_true]
      · simp only [st0, stoH', stoV, kinV, hSv, Sim_seen, List.cons_append, List.nil_append, LMS, LY, seval, reduceCtorEq, implies_true]
end Mv
