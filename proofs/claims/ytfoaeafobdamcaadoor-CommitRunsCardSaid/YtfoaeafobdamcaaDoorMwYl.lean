/- CommitRuns. -/
import Derived.Test.YtfoaeafobdamcaaDoorW1
import Derived.Test.YtfoaeafobdamcaaDoorY4
import Derived.Test.YtfoaeafobdamcaaDoorY5
import Derived.Test.YtfoaeafobdamcaaDoorMwC11
import Derived.Test.YtfoaeafobdamcaaDoorDl
set_option linter.unusedSimpArgs false
set_option linter.unusedVariables false
namespace Mv
open Go
set_option maxRecDepth 20000
set_option maxHeartbeats 4000000
set_option linter.unusedSimpArgs false

structure OkCR (M : Seat) : Prop where
  t : OkT M
  d : OkD M
  k11 : chkF M 11 f11 = true

theorem call_mO {M : Seat} {f : Nat} {us us0 : List V} {H H0 Ha Hb : Hp} {n k ka kb : Nat} {K : V → Hp → Prop} {v : V} (m : List Nat) (hr : Runs M f us0 H0 k (fun r H' k' => r = v ∧ ((H' = Ha ∧ k' = ka) ∨ (H' = Hb ∧ k' = kb))))
    (hm : (decide m.Nodup && decide (m.length = k) && (decide (k ≤ ka) && decide (ka ≤ k + 16)) && (decide (k ≤ kb) && decide (kb ≤ k + 16))) = true) (hall : (m.all fun i => hhas H i) = true) (hus : SimA H m (idsx H m) us0 us) (hH : SimH H m (idsx H m) H0) (hv : NoIm v) (hna : NoImL Ha) (hnb : NoImL Hb)
    (hKa : K (v.ren (numsF m n ka)) (renH (numsF m n ka) Ha ++ hrest H m)) (hKb : K (v.ren (numsF m n kb)) (renH (numsF m n kb) Hb ++ hrest H m)) : CallK M f us H n K := by
  simp only [Bool.and_eq_true, decide_eq_true_eq] at hm
  obtain ⟨⟨⟨h1, h2⟩, h3, h4⟩, h5, h6⟩ := hm
  refine call_runs hr True m (idsx H m) h1 (idsx_not m H) h2 (by simpa using hall) hus hH ?_
  rintro v' H' k' ⟨rfl, ⟨rfl, rfl⟩ | ⟨rfl, rfl⟩⟩
  · refine ⟨⟨h4, fun _ => ⟨hv, hna.H⟩⟩, ?_⟩
    rw [nums_F m n k' (by omega), if_pos trivial]
    exact hKa
  · refine ⟨⟨h6, fun _ => ⟨hv, hnb.H⟩⟩, ?_⟩
    rw [nums_F m n k' (by omega), if_pos trivial]
    exact hKb

/-- A list of instructions, as an argument. -/
def insA (l : List In) (v : V) : Prop := v = insL l ∨ (v = .nils ∧ l = [])
/-- The machine that its words make. -/
def ldM (l : List In) : Mc := ⟨memW (min l.length 8192) (fun j => wordOf (l.getD j default)), fun _ => 0#64, 0#64, false, 0#64⟩
def m4 (n : Int) : Nat := (BitVec.ofInt 64 n % 4#64).toNat
theorem m4_lt (n : Int) : m4 n < 4 := by rw [m4, BitVec.toNat_umod]; exact Nat.mod_lt _ (by decide)
theorem m4_int (n : Int) : (BitVec.ofInt 64 n % 4#64).toInt = (m4 n : Int) := by
  have := m4_lt n
  rw [BitVec.toInt_eq_toNat_cond, if_pos (by unfold m4 at this; omega)]; rfl

/-- Two stores, each with a machine: 0 to 5, 6 to 11; what was asked: 12, 13. -/
def st6 (w : WS) (va : V) (l : List (Dg × Bool)) : Hp := [(6, .st 4 (.fcons 0 (.map 7) (.fcons 1 (.ptr 8 []) (.fcons 2 (.map 10) (.fcons 3 va .fnil))))), (7, mpV prV Pr.zero w.pres), (8, kinV 9 w.a w.b w.met), (9, mpV prV Pr.zero w.ever), (10, seenV l)]
def qB (s : SM) : V := .ar 32 s.n fun i => dg (s.q i)
def HNN (s t : SM) : Hp := stoH' s.w .nils s.l ++ (5, s.m.v) :: (st6 t.w .nils t.l ++ [(11, t.m.v)])
def HSN (s t : SM) : Hp := stoH' s.w (.sl 12 [] 0 s.n 32) s.l ++ (5, s.m.v) :: (st6 t.w .nils t.l ++ [(11, t.m.v), (12, qB s)])
def HSS (s t : SM) : Hp := stoH' s.w (.sl 12 [] 0 s.n 32) s.l ++ (5, s.m.v) :: (st6 t.w (.sl 13 [] 0 t.n 32) t.l ++ [(11, t.m.v), (12, qB s), (13, qB t)])
set_option linter.defProp false in
def LA7 := And.intro (And.intro (And.intro @HNN.eq_1 @HSN.eq_1) (And.intro @HSS.eq_1 @st6.eq_1)) (And.intro @qB.eq_1 LA6)
noncomputable def H2 (s t : SM) : Hp := if s.n = 0 then HNN s t else if t.n = 0 then HSN s t else HSS s t
noncomputable def k2 (s t : SM) : Nat := if s.n = 0 then 12 else if t.n = 0 then 13 else 14
def st0 (l : List In) : SM := ⟨wNew 16, [], 0, fun _ => Dg.zero, ldM l⟩

theorem runs_CommitRuns {M : Seat} (ok : OkCR M) (l : List In) (v : V) (hne : foldN 5 (leafD 1) (pth (fun _ => 0) 5) 13 ≠ nought 13) (hv : insA l v) (hl : l.length < 9223372036854775808) (n : Int) :
    Runs M 11 [v, .int .i64 n] [] 0 (fun r H' k' => r = .bool true ∧ H' = [] ∧ k' = 0) := by
  refine runs_fr ok.k11 rfl fun x hx => ?_
  have okA := ok.t.okA
  have okW := ok.t.ok.toOkW
  have okI := okW.toOkI
  have okS := okI.toOkV.toOkS
  have hLN : l = [] → Runs M 74 [.nils] [] 0 (fun r H' k' => r = tup2 (.ptr 0 []) .nili ∧ H' = [(0, (ldM l).v)] ∧ k' = 1) := fun h => by subst h; exact runs_Load okA
  have hWN : l = [] → Runs M 75 [insL l] [] 0 (fun r H' k' => r = .nils ∧ H' = [] ∧ k' = 0) := fun h => by subst h; exact runs_WordsNil okI _ (.inr rfl)
  have hv' : (v = .nils ∧ l = []) ∨ (v = insL l ∧ l = []) ∨ (v = insL l ∧ 0 < l.length) := by
    rcases hv with h | h
    · by_cases h0 : l = []
      · exact .inr (.inl ⟨h, h0⟩)
      · exact .inr (.inr ⟨h, List.length_pos_iff.2 h0⟩)
    · exact .inl h
  have hRv : ∀ (m : Mc) a, m.v.ren a = m.v := fun _ _ => rfl
  have hNv : ∀ m : Mc, NoIm m.v := fun m => by simp only [Mc.v, mach, NoIm, NoIm_W, implies_true, and_self]
  have hSv : ∀ (m : Mc) H a z, Sim H a z m.v m.v := fun m H a z => by simp only [Mc.v, mach, LY, seval, reduceCtorEq, implies_true]
  have hFv : ∀ m : Mc, m.v = mach m.f m.g m.pc m.hl m.xt := fun _ => rfl
  have w4 := m4_lt n
  have w5 : IntKind.i64.wrap (1 + (m4 n : Int)) = ((1 + m4 n : Nat) : Int) := by rw [wrap_i64 (by omega)]; omega
  have hT : ∀ i, (its ok.t (st0 l) i).n ≤ i ∨ 549755813888 ≤ i := fun i => by
    rcases Nat.lt_or_ge i 549755813888 with h | h
    · have := its_n ok.t (st0 l) (by show 0 < 549755813888; decide) i h
      exact .inl (by have e : (st0 l).n = 0 := rfl; omega)
    · exact .inr h
  have hs0 : (st0 l).n < 549755813888 := by show 0 < 549755813888; decide
  rcases hv' with ⟨rfl, h0⟩ | ⟨rfl, h0⟩ | ⟨rfl, h0⟩
  case' inl =>
    refine ex_sound 2000 _ _ _ _ ?_; (simp (maxSteps := 4000000) only [f11, c11, LZ, seval, reduceCtorEq, forall_const])
    refine call_pZ (runs_WordsNil okI .nils (.inl rfl)) ?_
    (simp (maxSteps := 4000000) only [LZ, seval, reduceCtorEq, forall_const])
    refine call_fA (hLN h0) (by decide) (by ((try simp only [hNv, hSv, LY, seval, reduceCtorEq, implies_true]); first | done | exact True.intro | rfl)) (by simp only [hNv, hSv, LX, implies_true]) (by simp only [hNv, hSv, LX, implies_true]) ?_
    (simp (maxSteps := 4000000) only [tup2, hRv, LZ, seval, reduceCtorEq, forall_const])
    refine call_pZ (runs_WordsNil okI .nils (.inl rfl)) ?_
    (simp (maxSteps := 4000000) only [LZ, seval, reduceCtorEq, forall_const])
    refine call_fA (hLN h0) (by decide) (by ((try simp only [hNv, hSv, LY, seval, reduceCtorEq, implies_true]); first | done | exact True.intro | rfl)) (by simp only [hNv, hSv, LX, implies_true]) (by simp only [hNv, hSv, LX, implies_true]) ?_
    (simp (maxSteps := 4000000) only [tup2, hRv, LZ, seval, reduceCtorEq, forall_const])
    refine call_pZ (runs_fixed okA hne) ?_
    (simp (maxSteps := 4000000) only [LZ, seval, reduceCtorEq, forall_const])
    refine call_fA (runs_New okA okS) (by decide) (by ((try simp only [stoH', stoV, kinV, LMS, NoIm_seen, LY, seval, reduceCtorEq, implies_true]); first | done | exact True.intro | rfl)) (by simp only [stoH', stoV, kinV, LMS, NoIm_seen, LX, implies_true]) (by simp only [stoH', stoV, kinV, LMS, NoIm_seen, LX, implies_true]) ?_
    (simp (maxSteps := 4000000) only [stoH', stoV, kinV, ren_seen, LM, hRv, LZ, seval, reduceCtorEq, forall_const])
    refine call_fA (runs_New okA okS) (by decide) (by ((try simp only [stoH', stoV, kinV, LMS, NoIm_seen, LY, seval, reduceCtorEq, implies_true]); first | done | exact True.intro | rfl)) (by simp only [stoH', stoV, kinV, LMS, NoIm_seen, LX, implies_true]) (by simp only [stoH', stoV, kinV, LMS, NoIm_seen, LX, implies_true]) ?_
    (simp (maxSteps := 4000000) only [stoH', stoV, kinV, ren_seen, LM, hRv, m4_int, w5, LZ, seval, reduceCtorEq, forall_const])
    repeat (refine And.intro (by first | omega | exact True.intro | rfl) ?_)
  case' inr.inl =>
    refine ex_sound 2000 _ _ _ _ ?_; (simp (maxSteps := 4000000) only [f11, c11, LZ, seval, reduceCtorEq, forall_const])
    refine call_pA (hWN h0) (by ((try simp only [insL, insV, LY, seval, reduceCtorEq, implies_true]); first | done | exact True.intro | rfl)) (by first | rfl | (simp only [LN, LP, V.ren, tup2, tup3])) (by simp only [insL, insV, LX, implies_true]) ?_
    (simp (maxSteps := 4000000) only [LZ, seval, reduceCtorEq, forall_const])
    refine call_fA (hLN h0) (by decide) (by ((try simp only [hNv, hSv, LY, seval, reduceCtorEq, implies_true]); first | done | exact True.intro | rfl)) (by simp only [hNv, hSv, LX, implies_true]) (by simp only [hNv, hSv, LX, implies_true]) ?_
    (simp (maxSteps := 4000000) only [tup2, hRv, LZ, seval, reduceCtorEq, forall_const])
    refine call_pA (hWN h0) (by ((try simp only [insL, insV, LY, seval, reduceCtorEq, implies_true]); first | done | exact True.intro | rfl)) (by first | rfl | (simp only [LN, LP, V.ren, tup2, tup3])) (by simp only [insL, insV, LX, implies_true]) ?_
    (simp (maxSteps := 4000000) only [LZ, seval, reduceCtorEq, forall_const])
    refine call_fA (hLN h0) (by decide) (by ((try simp only [hNv, hSv, LY, seval, reduceCtorEq, implies_true]); first | done | exact True.intro | rfl)) (by simp only [hNv, hSv, LX, implies_true]) (by simp only [hNv, hSv, LX, implies_true]) ?_
    (simp (maxSteps := 4000000) only [tup2, hRv, LZ, seval, reduceCtorEq, forall_const])
    refine call_pZ (runs_fixed okA hne) ?_
    (simp (maxSteps := 4000000) only [LZ, seval, reduceCtorEq, forall_const])
    refine call_fA (runs_New okA okS) (by decide) (by ((try simp only [stoH', stoV, kinV, LMS, NoIm_seen, LY, seval, reduceCtorEq, implies_true]); first | done | exact True.intro | rfl)) (by simp only [stoH', stoV, kinV, LMS, NoIm_seen, LX, implies_true]) (by simp only [stoH', stoV, kinV, LMS, NoIm_seen, LX, implies_true]) ?_
    (simp (maxSteps := 4000000) only [stoH', stoV, kinV, ren_seen, LM, hRv, LZ, seval, reduceCtorEq, forall_const])
    refine call_fA (runs_New okA okS) (by decide) (by ((try simp only [stoH', stoV, kinV, LMS, NoIm_seen, LY, seval, reduceCtorEq, implies_true]); first | done | exact True.intro | rfl)) (by simp only [stoH', stoV, kinV, LMS, NoIm_seen, LX, implies_true]) (by simp only [stoH', stoV, kinV, LMS, NoIm_seen, LX, implies_true]) ?_
    (simp (maxSteps := 4000000) only [stoH', stoV, kinV, ren_seen, LM, hRv, m4_int, w5, LZ, seval, reduceCtorEq, forall_const])
    repeat (refine And.intro (by first | omega | exact True.intro | rfl) ?_)
  case' inr.inr =>
    refine ex_sound 2000 _ _ _ _ ?_; (simp (maxSteps := 4000000) only [f11, c11, LZ, seval, reduceCtorEq, forall_const])
    have hW := runs_Words okI l h0 hl
    have hLL : Runs M 74 _ [] 0 (fun r H' k' => r = tup2 (.ptr 0 []) .nili ∧ H' = [(0, (ldM l).v)] ∧ k' = 1) := runs_LoadW okA (min l.length 8192) (Nat.min_le_right _ _) (fun j => wordOf (l.getD j default))
    refine call_fA (hW) (by decide) (by ((try simp only [insL, insV, LY, seval, reduceCtorEq, implies_true]); first | done | exact True.intro | rfl)) (by simp only [insL, insV, LX, implies_true]) (by simp only [insL, insV, LX, implies_true]) ?_
    (simp (maxSteps := 4000000) only [LZ, seval, reduceCtorEq, forall_const])
    refine call_fA (hLL) (by decide) (by ((try simp only [hNv, hSv, LY, seval, reduceCtorEq, implies_true]); first | done | exact True.intro | rfl)) (by simp only [hNv, hSv, LX, implies_true]) (by simp only [hNv, hSv, LX, implies_true]) ?_
    (simp (maxSteps := 4000000) only [tup2, hRv, LZ, seval, reduceCtorEq, forall_const])
    refine call_fA (hW) (by decide) (by ((try simp only [insL, insV, LY, seval, reduceCtorEq, implies_true]); first | done | exact True.intro | rfl)) (by simp only [insL, insV, LX, implies_true]) (by simp only [insL, insV, LX, implies_true]) ?_
    (simp (maxSteps := 4000000) only [LZ, seval, reduceCtorEq, forall_const])
    refine call_fA (hLL) (by decide) (by ((try simp only [hNv, hSv, LY, seval, reduceCtorEq, implies_true]); first | done | exact True.intro | rfl)) (by simp only [hNv, hSv, LX, implies_true]) (by simp only [hNv, hSv, LX, implies_true]) ?_
    (simp (maxSteps := 4000000) only [tup2, hRv, LZ, seval, reduceCtorEq, forall_const])
    refine call_pZ (runs_fixed okA hne) ?_
    (simp (maxSteps := 4000000) only [LZ, seval, reduceCtorEq, forall_const])
    refine call_fA (runs_New okA okS) (by decide) (by ((try simp only [stoH', stoV, kinV, LMS, NoIm_seen, LY, seval, reduceCtorEq, implies_true]); first | done | exact True.intro | rfl)) (by simp only [stoH', stoV, kinV, LMS, NoIm_seen, LX, implies_true]) (by simp only [stoH', stoV, kinV, LMS, NoIm_seen, LX, implies_true]) ?_
    (simp (maxSteps := 4000000) only [stoH', stoV, kinV, ren_seen, LM, hRv, LZ, seval, reduceCtorEq, forall_const])
    refine call_fA (runs_New okA okS) (by decide) (by ((try simp only [stoH', stoV, kinV, LMS, NoIm_seen, LY, seval, reduceCtorEq, implies_true]); first | done | exact True.intro | rfl)) (by simp only [stoH', stoV, kinV, LMS, NoIm_seen, LX, implies_true]) (by simp only [stoH', stoV, kinV, LMS, NoIm_seen, LX, implies_true]) ?_
    (simp (maxSteps := 4000000) only [stoH', stoV, kinV, ren_seen, LM, hRv, m4_int, w5, LZ, seval, reduceCtorEq, forall_const])
    repeat (refine And.intro (by first | omega | exact True.intro | rfl) ?_)
  all_goals
    have hRun : ∀ i, i < 549755813000 → 0 < (its ok.t (st0 l) i).n → _ := fun i hi h => runs_RunS ok.t (its ok.t (st0 l) i) h (by have := hT i; omega) 5 (by decide)
    have hRunN : ∀ i, i < 549755813000 → (its ok.t (st0 l) i).n = 0 → _ := fun i hi h => runs_RunF ok.t (its ok.t (st0 l) i) h 5 (by decide)
    have hadd : ∀ i, its ok.t (its ok.t (st0 l) i) 5 = its ok.t (st0 l) (i + 5) := fun i => its_add ok.t (st0 l) i 5
    have hR := fun i (hi : i < 549755813888) => its_R ok.t (st0 l) hs0 i hi
    have hpos := fun i (h : 0 < (its ok.t (st0 l) i).n) => its_pos' ok.t (st0 l) hs0 i h
    have hT0 : its ok.t (st0 l) 0 = st0 l := rfl
    simp only [hadd] at hRun hRunN
    generalize its ok.t (st0 l) = T at *
    refine loop_rule (σ := Nat) (fun r => r ≤ 1 + m4 n) (fun r => fr 85 [(5, .ptr 5 []), (7, .ptr 11 []), (9, .ptr 0 []), (10, .ptr 6 []), (51, .int .i64 ((1 + m4 n : Nat) : Int)), (52, .int .i64 r)]) (fun r => H2 (T (5 * r)) (T (5 * r))) (fun r => k2 (T (5 * r)) (T (5 * r))) (fun r => 1 + m4 n - r) 0 (by omega) ?_ ?_
    · have h1 : H2 (T (5 * 0)) (T (5 * 0)) = HNN (T 0) (T 0) := if_pos (by rw [hT0]; rfl)
      have h2 : k2 (T (5 * 0)) (T (5 * 0)) = 12 := if_pos (by rw [hT0]; rfl)
      rw [h1, h2, hT0]
      refine Weak.fr [560, 561, 562, 563, 564, 48, 576, 577, 578, 579, 580, 176] [] hx (by simp only [fr_length]) (by decide) ?_ ?_
      · simp only [LY, seval, reduceCtorEq, implies_true]
      · simp only [HNN, st6, st0, stoH', stoV, kinV, hSv, Sim_seen, List.cons_append, List.nil_append, LMS, LY, seval, reduceCtorEq, implies_true]
    · intro r hr
      refine ex_sound 2000 _ _ _ _ ?_
      by_cases hz : (T (5 * r)).n = 0
      · have h1 : H2 (T (5 * r)) (T (5 * r)) = HNN (T (5 * r)) (T (5 * r)) := if_pos hz
        have h2 : k2 (T (5 * r)) (T (5 * r)) = 12 := if_pos hz
        rw [h1, h2]
        by_cases hrk : r = 1 + m4 n
        · have d0 : ((r : Int) < ((1 + m4 n : Nat) : Int)) = False := eq_false (by omega)
          (simp (maxSteps := 4000000) only [d0, LZ, seval, reduceCtorEq, forall_const])
          exact RetS.mkZ hx [] ⟨rfl, rfl, rfl⟩
        · have d0 : ((r : Int) < ((1 + m4 n : Nat) : Int)) = True := eq_true (by omega)
          have w1 : IntKind.i64.wrap ((r : Int) + 1) = ((r + 1 : Nat) : Int) := by rw [wrap_i64 (by omega)]; omega
          have e5 : 5 * (r + 1) = 5 * r + 5 := by omega
          have hOf := runs_Of okA ok.d (T (5 * r)).m.f (T (5 * r)).m.g (T (5 * r)).m.pc (T (5 * r)).m.hl (T (5 * r)).m.xt
          generalize comD (T (5 * r)).m.f (T (5 * r)).m.g (T (5 * r)).m.pc (T (5 * r)).m.hl (T (5 * r)).m.xt = C at hOf
          (simp (maxSteps := 4000000) only [d0, HNN, st6, qB, stoH', stoV, kinV, hFv, mach, List.cons_append, List.nil_append, LZ, seval, reduceCtorEq, forall_const])
          refine call_pA (hOf) (by ((try simp only [mach, LY, seval, reduceCtorEq, implies_true]); first | done | exact True.intro | rfl)) (by first | rfl | (simp only [LN, LP, V.ren, tup2, tup3])) (by simp only [mach, LX, implies_true]) ?_
          (simp (maxSteps := 4000000) only [tup2, LZ, seval, reduceCtorEq, forall_const])
          refine call_pA (hOf) (by ((try simp only [mach, LY, seval, reduceCtorEq, implies_true]); first | done | exact True.intro | rfl)) (by first | rfl | (simp only [LN, LP, V.ren, tup2, tup3])) (by simp only [mach, LX, implies_true]) ?_
          (simp (maxSteps := 4000000) only [tup2, LZ, seval, reduceCtorEq, forall_const])
          have hr0 := hRunN (5 * r) (by omega) hz
          by_cases h5 : (T (5 * r + 5)).n = 0
          · rw [show hdF (T (5 * r + 5)) = Nh (T (5 * r + 5)) from if_pos h5, show kdF (T (5 * r + 5)) = 6 from if_pos h5] at hr0
            have hm : Runs M 71 [.ptr 5 [], .ptr 0 [], .int .i64 5] _ _ _ := hr0
            simp only [Nh, hFv] at hm
            refine call_mA [0, 1, 2, 3, 4, 5] (hm) (by decide) (by rfl) (by ((try simp only [LA7, hFv, Sim_seen, NoIm_seen, dg, LMS, LY, seval, reduceCtorEq, implies_true]); first | done | exact True.intro | rfl)) (by ((try simp only [LA7, hFv, Sim_seen, NoIm_seen, dg, LMS, LY, seval, reduceCtorEq, implies_true]); first | done | exact True.intro | rfl)) (by simp only [LA7, hFv, Sim_seen, NoIm_seen, dg, LMS, LX, implies_true]) (by simp only [LA7, hFv, Sim_seen, NoIm_seen, dg, LMS, LX, implies_true]) ?_
            (simp (maxSteps := 4000000) only [LA7, hFv, ren_seen, LM, tup2, LZ, seval, reduceCtorEq, forall_const])
            refine loop_rule (σ := Nat) (fun j => j ≤ 5) (fun j => fr 85 [(5, .ptr 5 []), (7, .ptr 11 []), (9, .ptr 0 []), (10, .ptr 6 []), (51, .int .i64 ((1 + m4 n : Nat) : Int)), (52, .int .i64 r), (78, .int .i64 j)]) (fun j => H2 (T (5 * r + 5)) (T (5 * r + j))) (fun j => k2 (T (5 * r + 5)) (T (5 * r + j))) (fun j => 5 - j) 0 (by omega) ?_ ?_
            · have h3 : H2 (T (5 * r + 5)) (T (5 * r + 0)) = HNN (T (5 * r + 5)) (T (5 * r)) := if_pos h5
              have h4 : k2 (T (5 * r + 5)) (T (5 * r + 0)) = 12 := if_pos h5
              rw [h3, h4]
              refine Weak.fr [0, 1, 2, 3, 4, 5, 6, 7, 8, 9, 10, 11] [] hx (by simp only [fr_length]) (by decide) ?_ ?_
              · simp only [LY, seval, reduceCtorEq, implies_true]
              · simp only [LA7, hFv, Sim_seen, dg, LMS, LY, seval, reduceCtorEq, implies_true]
            · intro j hj
              refine ex_sound 2000 _ _ _ _ ?_
              have hst := hR (5 * r + j) (by omega)
              have ej : T (5 * r + (j + 1)) = T (5 * r + j + 1) := rfl
              have w2 : IntKind.i64.wrap ((j : Int) + 1) = ((j + 1 : Nat) : Int) := by rw [wrap_i64 (by omega)]; omega
              have h3 : H2 (T (5 * r + 5)) (T (5 * r + j)) = HNN (T (5 * r + 5)) (T (5 * r + j)) := if_pos h5
              have h4 : k2 (T (5 * r + 5)) (T (5 * r + j)) = 12 := if_pos h5
              rw [h3, h4]
              have hno : ∀ i, i ≤ 5 * r + 5 → ¬ 0 < (T i).n := fun i hi h => by have := hpos i h (5 * r + 5) hi (by omega); omega
              by_cases hj5 : j = 5
              · subst hj5
                (simp (maxSteps := 4000000) only [w1, LZ, seval, reduceCtorEq, forall_const])
                refine ⟨r + 1, by omega, by omega, ?_⟩
                rw [e5]
                have h3 : H2 (T (5 * r + 5)) (T (5 * r + 5)) = HNN (T (5 * r + 5)) (T (5 * r + 5)) := if_pos h5
                have h4 : k2 (T (5 * r + 5)) (T (5 * r + 5)) = 12 := if_pos h5
                rw [h3, h4]
                refine Weak.fr [0, 1, 2, 3, 4, 5, 6, 7, 8, 9, 10, 11] [] hx (by simp only [fr_length]) (by decide) ?_ ?_
                · simp only [LY, seval, reduceCtorEq, implies_true]
                · simp only [LA7, hFv, Sim_seen, dg, LMS, LY, seval, reduceCtorEq, implies_true]
              · have d1 : ((j : Int) < 5) = True := eq_true (by omega)
                (simp (maxSteps := 4000000) only [d1, LA7, hFv, LZ, seval, reduceCtorEq, forall_const])
                rcases hst.1 with ⟨h, hw⟩ | ⟨-, -, h⟩ | ⟨-, h0', -⟩ | ⟨h0', -, -⟩ | ⟨h0', -, -⟩
                · have hm : Runs M 70 [.ptr 0 [], .ptr 1 []] [(0, (T (5 * r + j)).m.v)] 2 _ := h
                  simp only [hFv] at hm
                  have v1 : (T (5 * r + j + 1)).w = (T (5 * r + j)).w := by rw [hw]
                  have v2 : (T (5 * r + j + 1)).l = (T (5 * r + j)).l := by rw [hw]
                  have v3 : (T (5 * r + j + 1)).n = (T (5 * r + j)).n := by rw [hw]
                  have v4 : (T (5 * r + j + 1)).q = (T (5 * r + j)).q := by rw [hw]
                  clear hw
                  refine call_mB [11, 6] [11] (hm) (by rfl) (by rfl) (by decide) (by rfl) (by rfl) (by ((try simp only [mach, LY, seval, reduceCtorEq, implies_true]); first | done | exact True.intro | rfl)) (by ((try simp only [mach, LY, seval, reduceCtorEq, implies_true]); first | done | exact True.intro | rfl)) (by simp only [mach, LX, implies_true]) (by simp only [mach, LX, implies_true]) ?_
                  (simp (maxSteps := 4000000) only [LA7, hFv, ren_seen, LM, w2, LZ, seval, reduceCtorEq, forall_const])
                  refine ⟨j + 1, by omega, by omega, ?_⟩
                  rw [ej]
                  have h3 : H2 (T (5 * r + 5)) (T (5 * r + j + 1)) = HNN (T (5 * r + 5)) (T (5 * r + j + 1)) := if_pos h5
                  have h4 : k2 (T (5 * r + 5)) (T (5 * r + j + 1)) = 12 := if_pos h5
                  rw [h3, h4]
                  refine Weak.fr [0, 1, 2, 3, 4, 5, 6, 7, 8, 9, 10, 11] [] hx (by simp only [fr_length]) (by decide) ?_ ?_
                  · simp only [LY, seval, reduceCtorEq, implies_true]
                  · simp only [v1, v2, v3, v4, LA7, hFv, Sim_seen, dg, LMS, LY, seval, reduceCtorEq, implies_true]
                · have hm : Runs M 70 [.ptr 5 [], .ptr 0 []] _ _ _ := h
                  simp only [Nh, Sh, hFv] at hm
                  refine call_mA [6, 7, 8, 9, 10, 11] (hm) (by decide) (by rfl) (by ((try simp only [LA7, hFv, Sim_seen, NoIm_seen, dg, LMS, LY, seval, reduceCtorEq, implies_true]); first | done | exact True.intro | rfl)) (by ((try simp only [LA7, hFv, Sim_seen, NoIm_seen, dg, LMS, LY, seval, reduceCtorEq, implies_true]); first | done | exact True.intro | rfl)) (by simp only [LA7, hFv, Sim_seen, NoIm_seen, dg, LMS, LX, implies_true]) (by simp only [LA7, hFv, Sim_seen, NoIm_seen, dg, LMS, LX, implies_true]) ?_
                  (simp (maxSteps := 4000000) only [LA7, hFv, ren_seen, LM, w2, LZ, seval, reduceCtorEq, forall_const])
                  refine ⟨j + 1, by omega, by omega, ?_⟩
                  rw [ej]
                  have h3 : H2 (T (5 * r + 5)) (T (5 * r + j + 1)) = HNN (T (5 * r + 5)) (T (5 * r + j + 1)) := if_pos h5
                  have h4 : k2 (T (5 * r + 5)) (T (5 * r + j + 1)) = 12 := if_pos h5
                  rw [h3, h4]
                  refine Weak.fr [0, 1, 2, 3, 4, 5, 6, 7, 8, 9, 10, 11] [] hx (by simp only [fr_length]) (by decide) ?_ ?_
                  · simp only [LY, seval, reduceCtorEq, implies_true]
                  · simp only [LA7, hFv, Sim_seen, dg, LMS, LY, seval, reduceCtorEq, implies_true]
                · exact absurd h0' (hno _ (by omega))
                · exact absurd h0' (hno _ (by omega))
                · exact absurd h0' (hno _ (by omega))
          · rw [show hdF (T (5 * r + 5)) = Sh 6 (T (5 * r + 5)) from if_neg h5, show kdF (T (5 * r + 5)) = 7 from if_neg h5] at hr0
            have hm : Runs M 71 [.ptr 5 [], .ptr 0 [], .int .i64 5] _ _ _ := hr0
            simp only [Nh, Sh, hFv] at hm
            refine call_mA [0, 1, 2, 3, 4, 5] (hm) (by decide) (by rfl) (by ((try simp only [LA7, hFv, Sim_seen, NoIm_seen, dg, LMS, LY, seval, reduceCtorEq, implies_true]); first | done | exact True.intro | rfl)) (by ((try simp only [LA7, hFv, Sim_seen, NoIm_seen, dg, LMS, LY, seval, reduceCtorEq, implies_true]); first | done | exact True.intro | rfl)) (by simp only [LA7, hFv, Sim_seen, NoIm_seen, dg, LMS, LX, implies_true]) (by simp only [LA7, hFv, Sim_seen, NoIm_seen, dg, LMS, LX, implies_true]) ?_
            (simp (maxSteps := 4000000) only [LA7, hFv, ren_seen, LM, tup2, LZ, seval, reduceCtorEq, forall_const])
            refine loop_rule (σ := Nat) (fun j => j ≤ 5) (fun j => fr 85 [(5, .ptr 5 []), (7, .ptr 11 []), (9, .ptr 0 []), (10, .ptr 6 []), (51, .int .i64 ((1 + m4 n : Nat) : Int)), (52, .int .i64 r), (78, .int .i64 j)]) (fun j => H2 (T (5 * r + 5)) (T (5 * r + j))) (fun j => k2 (T (5 * r + 5)) (T (5 * r + j))) (fun j => 5 - j) 0 (by omega) ?_ ?_
            · have h3 : H2 (T (5 * r + 5)) (T (5 * r + 0)) = HSN (T (5 * r + 5)) (T (5 * r)) := by rw [H2, if_neg h5]; exact if_pos hz
              have h4 : k2 (T (5 * r + 5)) (T (5 * r + 0)) = 13 := by rw [k2, if_neg h5]; exact if_pos hz
              rw [h3, h4]
              refine Weak.fr [0, 1, 2, 3, 4, 5, 6, 7, 8, 9, 10, 11, 492] [] hx (by simp only [fr_length]) (by decide) ?_ ?_
              · simp only [LY, seval, reduceCtorEq, implies_true]
              · simp only [LA7, hFv, Sim_seen, dg, LMS, LY, seval, reduceCtorEq, implies_true]
            · intro j hj
              refine ex_sound 2000 _ _ _ _ ?_
              have hst := hR (5 * r + j) (by omega)
              have ej : T (5 * r + (j + 1)) = T (5 * r + j + 1) := rfl
              have w2 : IntKind.i64.wrap ((j : Int) + 1) = ((j + 1 : Nat) : Int) := by rw [wrap_i64 (by omega)]; omega
              by_cases hz' : (T (5 * r + j)).n = 0
              · have h3 : H2 (T (5 * r + 5)) (T (5 * r + j)) = HSN (T (5 * r + 5)) (T (5 * r + j)) := by rw [H2, if_neg h5]; exact if_pos hz'
                have h4 : k2 (T (5 * r + 5)) (T (5 * r + j)) = 13 := by rw [k2, if_neg h5]; exact if_pos hz'
                rw [h3, h4]
                by_cases hj5 : j = 5
                · subst hj5; exact absurd hz' h5
                · have d1 : ((j : Int) < 5) = True := eq_true (by omega)
                  (simp (maxSteps := 4000000) only [d1, LA7, hFv, LZ, seval, reduceCtorEq, forall_const])
                  rcases hst.1 with ⟨h, hw⟩ | ⟨-, hn', h⟩ | ⟨-, hn', h⟩ | ⟨h0', -, -⟩ | ⟨h0', -, -⟩
                  · have hm : Runs M 70 [.ptr 0 [], .ptr 1 []] [(0, (T (5 * r + j)).m.v)] 2 _ := h
                    simp only [hFv] at hm
                    have v1 : (T (5 * r + j + 1)).w = (T (5 * r + j)).w := by rw [hw]
                    have v2 : (T (5 * r + j + 1)).l = (T (5 * r + j)).l := by rw [hw]
                    have v3 : (T (5 * r + j + 1)).n = (T (5 * r + j)).n := by rw [hw]
                    have v4 : (T (5 * r + j + 1)).q = (T (5 * r + j)).q := by rw [hw]
                    clear hw
                    refine call_mB [11, 6] [11] (hm) (by rfl) (by rfl) (by decide) (by rfl) (by rfl) (by ((try simp only [mach, LY, seval, reduceCtorEq, implies_true]); first | done | exact True.intro | rfl)) (by ((try simp only [mach, LY, seval, reduceCtorEq, implies_true]); first | done | exact True.intro | rfl)) (by simp only [mach, LX, implies_true]) (by simp only [mach, LX, implies_true]) ?_
                    (simp (maxSteps := 4000000) only [LA7, hFv, ren_seen, LM, w2, LZ, seval, reduceCtorEq, forall_const])
                    refine ⟨j + 1, by omega, by omega, ?_⟩
                    rw [ej]
                    have h3 : H2 (T (5 * r + 5)) (T (5 * r + j + 1)) = HSN (T (5 * r + 5)) (T (5 * r + j + 1)) := by rw [H2, if_neg h5]; exact if_pos (by rw [v3]; exact hz')
                    have h4 : k2 (T (5 * r + 5)) (T (5 * r + j + 1)) = 13 := by rw [k2, if_neg h5]; exact if_pos (by rw [v3]; exact hz')
                    rw [h3, h4]
                    refine Weak.fr [0, 1, 2, 3, 4, 5, 6, 7, 8, 9, 10, 11, 12] [] hx (by simp only [fr_length]) (by decide) ?_ ?_
                    · simp only [LY, seval, reduceCtorEq, implies_true]
                    · simp only [v1, v2, v3, v4, LA7, hFv, Sim_seen, dg, LMS, LY, seval, reduceCtorEq, implies_true]
                  · have hm : Runs M 70 [.ptr 5 [], .ptr 0 []] _ _ _ := h
                    simp only [Nh, Sh, hFv] at hm
                    refine call_mA [6, 7, 8, 9, 10, 11] (hm) (by decide) (by rfl) (by ((try simp only [LA7, hFv, Sim_seen, NoIm_seen, dg, LMS, LY, seval, reduceCtorEq, implies_true]); first | done | exact True.intro | rfl)) (by ((try simp only [LA7, hFv, Sim_seen, NoIm_seen, dg, LMS, LY, seval, reduceCtorEq, implies_true]); first | done | exact True.intro | rfl)) (by simp only [LA7, hFv, Sim_seen, NoIm_seen, dg, LMS, LX, implies_true]) (by simp only [LA7, hFv, Sim_seen, NoIm_seen, dg, LMS, LX, implies_true]) ?_
                    (simp (maxSteps := 4000000) only [LA7, hFv, ren_seen, LM, w2, LZ, seval, reduceCtorEq, forall_const])
                    refine ⟨j + 1, by omega, by omega, ?_⟩
                    rw [ej]
                    have h3 : H2 (T (5 * r + 5)) (T (5 * r + j + 1)) = HSN (T (5 * r + 5)) (T (5 * r + j + 1)) := by rw [H2, if_neg h5]; exact if_pos hn'
                    have h4 : k2 (T (5 * r + 5)) (T (5 * r + j + 1)) = 13 := by rw [k2, if_neg h5]; exact if_pos hn'
                    rw [h3, h4]
                    refine Weak.fr [0, 1, 2, 3, 4, 5, 6, 7, 8, 9, 10, 11, 12] [] hx (by simp only [fr_length]) (by decide) ?_ ?_
                    · simp only [LY, seval, reduceCtorEq, implies_true]
                    · simp only [LA7, hFv, Sim_seen, dg, LMS, LY, seval, reduceCtorEq, implies_true]
                  · have hm : Runs M 70 [.ptr 5 [], .ptr 0 []] _ _ _ := h
                    simp only [Nh, Sh, hFv] at hm
                    refine call_mA [6, 7, 8, 9, 10, 11] (hm) (by decide) (by rfl) (by ((try simp only [LA7, hFv, Sim_seen, NoIm_seen, dg, LMS, LY, seval, reduceCtorEq, implies_true]); first | done | exact True.intro | rfl)) (by ((try simp only [LA7, hFv, Sim_seen, NoIm_seen, dg, LMS, LY, seval, reduceCtorEq, implies_true]); first | done | exact True.intro | rfl)) (by simp only [LA7, hFv, Sim_seen, NoIm_seen, dg, LMS, LX, implies_true]) (by simp only [LA7, hFv, Sim_seen, NoIm_seen, dg, LMS, LX, implies_true]) ?_
                    (simp (maxSteps := 4000000) only [LA7, hFv, ren_seen, LM, w2, LZ, seval, reduceCtorEq, forall_const])
                    refine ⟨j + 1, by omega, by omega, ?_⟩
                    rw [ej]
                    have h3 : H2 (T (5 * r + 5)) (T (5 * r + j + 1)) = HSS (T (5 * r + 5)) (T (5 * r + j + 1)) := by rw [H2, if_neg h5, if_neg (Nat.pos_iff_ne_zero.1 hn')]
                    have h4 : k2 (T (5 * r + 5)) (T (5 * r + j + 1)) = 14 := by rw [k2, if_neg h5, if_neg (Nat.pos_iff_ne_zero.1 hn')]
                    rw [h3, h4]
                    refine Weak.fr [0, 1, 2, 3, 4, 5, 6, 7, 8, 9, 10, 11, 12, 61] [] hx (by simp only [fr_length]) (by decide) ?_ ?_
                    · simp only [LY, seval, reduceCtorEq, implies_true]
                    · simp only [LA7, hFv, Sim_seen, dg, LMS, LY, seval, reduceCtorEq, implies_true]
                  · exact absurd hz' (Nat.pos_iff_ne_zero.1 h0')
                  · exact absurd hz' (Nat.pos_iff_ne_zero.1 h0')
              · have h3 : H2 (T (5 * r + 5)) (T (5 * r + j)) = HSS (T (5 * r + 5)) (T (5 * r + j)) := by rw [H2, if_neg h5, if_neg hz']
                have h4 : k2 (T (5 * r + 5)) (T (5 * r + j)) = 14 := by rw [k2, if_neg h5, if_neg hz']
                rw [h3, h4]
                by_cases hj5 : j = 5
                · subst hj5
                  (simp (maxSteps := 4000000) only [w1, LZ, seval, reduceCtorEq, forall_const])
                  refine ⟨r + 1, by omega, by omega, ?_⟩
                  rw [e5]
                  have h3 : H2 (T (5 * r + 5)) (T (5 * r + 5)) = HSS (T (5 * r + 5)) (T (5 * r + 5)) := by rw [H2, if_neg h5, if_neg h5]
                  have h4 : k2 (T (5 * r + 5)) (T (5 * r + 5)) = 14 := by rw [k2, if_neg h5, if_neg h5]
                  rw [h3, h4]
                  refine Weak.fr [0, 1, 2, 3, 4, 5, 6, 7, 8, 9, 10, 11, 12, 13] [] hx (by simp only [fr_length]) (by decide) ?_ ?_
                  · simp only [LY, seval, reduceCtorEq, implies_true]
                  · simp only [LA7, hFv, Sim_seen, dg, LMS, LY, seval, reduceCtorEq, implies_true]
                · have d1 : ((j : Int) < 5) = True := eq_true (by omega)
                  (simp (maxSteps := 4000000) only [d1, LA7, hFv, LZ, seval, reduceCtorEq, forall_const])
                  rcases hst.1 with ⟨h, hw⟩ | ⟨h0', -, -⟩ | ⟨h0', -, -⟩ | ⟨-, hn', h⟩ | ⟨-, hn', h⟩
                  · have hm : Runs M 70 [.ptr 0 [], .ptr 1 []] [(0, (T (5 * r + j)).m.v)] 2 _ := h
                    simp only [hFv] at hm
                    have v1 : (T (5 * r + j + 1)).w = (T (5 * r + j)).w := by rw [hw]
                    have v2 : (T (5 * r + j + 1)).l = (T (5 * r + j)).l := by rw [hw]
                    have v3 : (T (5 * r + j + 1)).n = (T (5 * r + j)).n := by rw [hw]
                    have v4 : (T (5 * r + j + 1)).q = (T (5 * r + j)).q := by rw [hw]
                    clear hw
                    refine call_mB [11, 6] [11] (hm) (by rfl) (by rfl) (by decide) (by rfl) (by rfl) (by ((try simp only [mach, LY, seval, reduceCtorEq, implies_true]); first | done | exact True.intro | rfl)) (by ((try simp only [mach, LY, seval, reduceCtorEq, implies_true]); first | done | exact True.intro | rfl)) (by simp only [mach, LX, implies_true]) (by simp only [mach, LX, implies_true]) ?_
                    (simp (maxSteps := 4000000) only [LA7, hFv, ren_seen, LM, w2, LZ, seval, reduceCtorEq, forall_const])
                    refine ⟨j + 1, by omega, by omega, ?_⟩
                    rw [ej]
                    have h3 : H2 (T (5 * r + 5)) (T (5 * r + j + 1)) = HSS (T (5 * r + 5)) (T (5 * r + j + 1)) := by rw [H2, if_neg h5, if_neg (by rw [v3]; exact hz')]
                    have h4 : k2 (T (5 * r + 5)) (T (5 * r + j + 1)) = 14 := by rw [k2, if_neg h5, if_neg (by rw [v3]; exact hz')]
                    rw [h3, h4]
                    refine Weak.fr [0, 1, 2, 3, 4, 5, 6, 7, 8, 9, 10, 11, 12, 13] [] hx (by simp only [fr_length]) (by decide) ?_ ?_
                    · simp only [LY, seval, reduceCtorEq, implies_true]
                    · simp only [v1, v2, v3, v4, LA7, hFv, Sim_seen, dg, LMS, LY, seval, reduceCtorEq, implies_true]
                  · exact absurd h0' hz'
                  · exact absurd h0' hz'
                  · have hm : Runs M 70 [.ptr 5 [], .ptr 0 []] _ _ _ := h
                    simp only [Nh, Sh, hFv] at hm
                    refine call_mA [6, 7, 8, 9, 10, 11, 13] (hm) (by decide) (by rfl) (by ((try simp only [LA7, hFv, Sim_seen, NoIm_seen, dg, LMS, LY, seval, reduceCtorEq, implies_true]); first | done | exact True.intro | rfl)) (by ((try simp only [LA7, hFv, Sim_seen, NoIm_seen, dg, LMS, LY, seval, reduceCtorEq, implies_true]); first | done | exact True.intro | rfl)) (by simp only [LA7, hFv, Sim_seen, NoIm_seen, dg, LMS, LX, implies_true]) (by simp only [LA7, hFv, Sim_seen, NoIm_seen, dg, LMS, LX, implies_true]) ?_
                    (simp (maxSteps := 4000000) only [LA7, hFv, ren_seen, LM, w2, LZ, seval, reduceCtorEq, forall_const])
                    refine ⟨j + 1, by omega, by omega, ?_⟩
                    rw [ej]
                    have h3 : H2 (T (5 * r + 5)) (T (5 * r + j + 1)) = HSS (T (5 * r + 5)) (T (5 * r + j + 1)) := by rw [H2, if_neg h5, if_neg (Nat.pos_iff_ne_zero.1 hn')]
                    have h4 : k2 (T (5 * r + 5)) (T (5 * r + j + 1)) = 14 := by rw [k2, if_neg h5, if_neg (Nat.pos_iff_ne_zero.1 hn')]
                    rw [h3, h4]
                    refine Weak.fr [0, 1, 2, 3, 4, 5, 6, 7, 8, 9, 10, 11, 12, 13] [] hx (by simp only [fr_length]) (by decide) ?_ ?_
                    · simp only [LY, seval, reduceCtorEq, implies_true]
                    · simp only [LA7, hFv, Sim_seen, dg, LMS, LY, seval, reduceCtorEq, implies_true]
                  · have hm : Runs M 70 [.ptr 5 [], .ptr 0 []] _ _ _ := h
                    simp only [Nh, Sh, hFv] at hm
                    refine call_mA [6, 7, 8, 9, 10, 11, 13] (hm) (by decide) (by rfl) (by ((try simp only [LA7, hFv, Sim_seen, NoIm_seen, dg, LMS, LY, seval, reduceCtorEq, implies_true]); first | done | exact True.intro | rfl)) (by ((try simp only [LA7, hFv, Sim_seen, NoIm_seen, dg, LMS, LY, seval, reduceCtorEq, implies_true]); first | done | exact True.intro | rfl)) (by simp only [LA7, hFv, Sim_seen, NoIm_seen, dg, LMS, LX, implies_true]) (by simp only [LA7, hFv, Sim_seen, NoIm_seen, dg, LMS, LX, implies_true]) ?_
                    (simp (maxSteps := 4000000) only [LA7, hFv, ren_seen, LM, w2, LZ, seval, reduceCtorEq, forall_const])
                    refine ⟨j + 1, by omega, by omega, ?_⟩
                    rw [ej]
                    have h3 : H2 (T (5 * r + 5)) (T (5 * r + j + 1)) = HSS (T (5 * r + 5)) (T (5 * r + j + 1)) := by rw [H2, if_neg h5, if_neg (Nat.pos_iff_ne_zero.1 hn')]
                    have h4 : k2 (T (5 * r + 5)) (T (5 * r + j + 1)) = 14 := by rw [k2, if_neg h5, if_neg (Nat.pos_iff_ne_zero.1 hn')]
                    rw [h3, h4]
                    refine Weak.fr [0, 1, 2, 3, 4, 5, 6, 7, 8, 9, 10, 11, 12, 62] [] hx (by simp only [fr_length]) (by decide) ?_ ?_
                    · simp only [LY, seval, reduceCtorEq, implies_true]
                    · simp only [LA7, hFv, Sim_seen, dg, LMS, LY, seval, reduceCtorEq, implies_true]
      · have h1 : H2 (T (5 * r)) (T (5 * r)) = HSS (T (5 * r)) (T (5 * r)) := by rw [H2, if_neg hz, if_neg hz]
        have h2 : k2 (T (5 * r)) (T (5 * r)) = 14 := by rw [k2, if_neg hz, if_neg hz]
        rw [h1, h2]
        by_cases hrk : r = 1 + m4 n
        · have d0 : ((r : Int) < ((1 + m4 n : Nat) : Int)) = False := eq_false (by omega)
          (simp (maxSteps := 4000000) only [d0, LZ, seval, reduceCtorEq, forall_const])
          exact RetS.mkZ hx [] ⟨rfl, rfl, rfl⟩
        · have d0 : ((r : Int) < ((1 + m4 n : Nat) : Int)) = True := eq_true (by omega)
          have w1 : IntKind.i64.wrap ((r : Int) + 1) = ((r + 1 : Nat) : Int) := by rw [wrap_i64 (by omega)]; omega
          have e5 : 5 * (r + 1) = 5 * r + 5 := by omega
          have hOf := runs_Of okA ok.d (T (5 * r)).m.f (T (5 * r)).m.g (T (5 * r)).m.pc (T (5 * r)).m.hl (T (5 * r)).m.xt
          generalize comD (T (5 * r)).m.f (T (5 * r)).m.g (T (5 * r)).m.pc (T (5 * r)).m.hl (T (5 * r)).m.xt = C at hOf
          (simp (maxSteps := 4000000) only [d0, HSS, st6, qB, stoH', stoV, kinV, hFv, mach, List.cons_append, List.nil_append, LZ, seval, reduceCtorEq, forall_const])
          refine call_pA (hOf) (by ((try simp only [mach, LY, seval, reduceCtorEq, implies_true]); first | done | exact True.intro | rfl)) (by first | rfl | (simp only [LN, LP, V.ren, tup2, tup3])) (by simp only [mach, LX, implies_true]) ?_
          (simp (maxSteps := 4000000) only [tup2, LZ, seval, reduceCtorEq, forall_const])
          refine call_pA (hOf) (by ((try simp only [mach, LY, seval, reduceCtorEq, implies_true]); first | done | exact True.intro | rfl)) (by first | rfl | (simp only [LN, LP, V.ren, tup2, tup3])) (by simp only [mach, LX, implies_true]) ?_
          (simp (maxSteps := 4000000) only [tup2, LZ, seval, reduceCtorEq, forall_const])
          have hm : Runs M 71 [.ptr 5 [], .ptr 0 [], .int .i64 5] _ _ _ := hRun (5 * r) (by omega) (Nat.pos_of_ne_zero hz)
          have h5 : ¬ (T (5 * r + 5)).n = 0 := Nat.pos_iff_ne_zero.1 (hpos (5 * r) (Nat.pos_of_ne_zero hz) (5 * r + 5) (by omega) (by omega))
          simp only [Sh, hFv] at hm
          refine call_mO [0, 1, 2, 3, 4, 5, 12] hm (by decide) (by rfl) (by ((try simp only [LA7, hFv, Sim_seen, NoIm_seen, dg, LMS, LY, seval, reduceCtorEq, implies_true]); first | done | exact True.intro | rfl)) (by ((try simp only [LA7, hFv, Sim_seen, NoIm_seen, dg, LMS, LY, seval, reduceCtorEq, implies_true]); first | done | exact True.intro | rfl)) (by simp only [LA7, hFv, Sim_seen, NoIm_seen, dg, LMS, LX, implies_true]) (by simp only [LA7, hFv, Sim_seen, NoIm_seen, dg, LMS, LX, implies_true]) (by simp only [LA7, hFv, Sim_seen, NoIm_seen, dg, LMS, LX, implies_true]) ?_ ?_
          all_goals
            (simp (maxSteps := 4000000) only [LA7, hFv, ren_seen, LM, tup2, LZ, seval, reduceCtorEq, forall_const])
            refine loop_rule (σ := Nat) (fun j => j ≤ 5) (fun j => fr 85 [(5, .ptr 5 []), (7, .ptr 11 []), (9, .ptr 0 []), (10, .ptr 6 []), (51, .int .i64 ((1 + m4 n : Nat) : Int)), (52, .int .i64 r), (78, .int .i64 j)]) (fun j => H2 (T (5 * r + 5)) (T (5 * r + j))) (fun j => k2 (T (5 * r + 5)) (T (5 * r + j))) (fun j => 5 - j) 0 (by omega) ?_ ?_
            · have h3 : H2 (T (5 * r + 5)) (T (5 * r + 0)) = HSS (T (5 * r + 5)) (T (5 * r)) := by show H2 (T (5 * r + 5)) (T (5 * r)) = _; rw [H2, if_neg h5, if_neg hz]
              have h4 : k2 (T (5 * r + 5)) (T (5 * r + 0)) = 14 := by show k2 (T (5 * r + 5)) (T (5 * r)) = _; rw [k2, if_neg h5, if_neg hz]
              rw [h3, h4]
              first
                | (refine Weak.fr [0, 1, 2, 3, 4, 5, 6, 7, 8, 9, 10, 11, 12, 13] [] hx (by simp only [fr_length]) (by decide) ?_ ?_
                   · simp only [LY, seval, reduceCtorEq, implies_true]
                   · simp only [LA7, hFv, Sim_seen, dg, LMS, LY, seval, reduceCtorEq, implies_true])
                | (refine Weak.fr [0, 1, 2, 3, 4, 5, 6, 7, 8, 9, 10, 11, 494, 13] [] hx (by simp only [fr_length]) (by decide) ?_ ?_
                   · simp only [LY, seval, reduceCtorEq, implies_true]
                   · simp only [LA7, hFv, Sim_seen, dg, LMS, LY, seval, reduceCtorEq, implies_true])
            · intro j hj
              refine ex_sound 2000 _ _ _ _ ?_
              have hst := hR (5 * r + j) (by omega)
              have ej : T (5 * r + (j + 1)) = T (5 * r + j + 1) := rfl
              have w2 : IntKind.i64.wrap ((j : Int) + 1) = ((j + 1 : Nat) : Int) := by rw [wrap_i64 (by omega)]; omega
              by_cases hz' : (T (5 * r + j)).n = 0
              · have h3 : H2 (T (5 * r + 5)) (T (5 * r + j)) = HSN (T (5 * r + 5)) (T (5 * r + j)) := by rw [H2, if_neg h5]; exact if_pos hz'
                have h4 : k2 (T (5 * r + 5)) (T (5 * r + j)) = 13 := by rw [k2, if_neg h5]; exact if_pos hz'
                rw [h3, h4]
                by_cases hj5 : j = 5
                · subst hj5; exact absurd hz' h5
                · have d1 : ((j : Int) < 5) = True := eq_true (by omega)
                  (simp (maxSteps := 4000000) only [d1, LA7, hFv, LZ, seval, reduceCtorEq, forall_const])
                  rcases hst.1 with ⟨h, hw⟩ | ⟨-, hn', h⟩ | ⟨-, hn', h⟩ | ⟨h0', -, -⟩ | ⟨h0', -, -⟩
                  · have hm : Runs M 70 [.ptr 0 [], .ptr 1 []] [(0, (T (5 * r + j)).m.v)] 2 _ := h
                    simp only [hFv] at hm
                    have v1 : (T (5 * r + j + 1)).w = (T (5 * r + j)).w := by rw [hw]
                    have v2 : (T (5 * r + j + 1)).l = (T (5 * r + j)).l := by rw [hw]
                    have v3 : (T (5 * r + j + 1)).n = (T (5 * r + j)).n := by rw [hw]
                    have v4 : (T (5 * r + j + 1)).q = (T (5 * r + j)).q := by rw [hw]
                    clear hw
                    refine call_mB [11, 6] [11] (hm) (by rfl) (by rfl) (by decide) (by rfl) (by rfl) (by ((try simp only [mach, LY, seval, reduceCtorEq, implies_true]); first | done | exact True.intro | rfl)) (by ((try simp only [mach, LY, seval, reduceCtorEq, implies_true]); first | done | exact True.intro | rfl)) (by simp only [mach, LX, implies_true]) (by simp only [mach, LX, implies_true]) ?_
                    (simp (maxSteps := 4000000) only [LA7, hFv, ren_seen, LM, w2, LZ, seval, reduceCtorEq, forall_const])
                    refine ⟨j + 1, by omega, by omega, ?_⟩
                    rw [ej]
                    have h3 : H2 (T (5 * r + 5)) (T (5 * r + j + 1)) = HSN (T (5 * r + 5)) (T (5 * r + j + 1)) := by rw [H2, if_neg h5]; exact if_pos (by rw [v3]; exact hz')
                    have h4 : k2 (T (5 * r + 5)) (T (5 * r + j + 1)) = 13 := by rw [k2, if_neg h5]; exact if_pos (by rw [v3]; exact hz')
                    rw [h3, h4]
                    refine Weak.fr [0, 1, 2, 3, 4, 5, 6, 7, 8, 9, 10, 11, 12] [] hx (by simp only [fr_length]) (by decide) ?_ ?_
                    · simp only [LY, seval, reduceCtorEq, implies_true]
                    · simp only [v1, v2, v3, v4, LA7, hFv, Sim_seen, dg, LMS, LY, seval, reduceCtorEq, implies_true]
                  · have hm : Runs M 70 [.ptr 5 [], .ptr 0 []] _ _ _ := h
                    simp only [Nh, Sh, hFv] at hm
                    refine call_mA [6, 7, 8, 9, 10, 11] (hm) (by decide) (by rfl) (by ((try simp only [LA7, hFv, Sim_seen, NoIm_seen, dg, LMS, LY, seval, reduceCtorEq, implies_true]); first | done | exact True.intro | rfl)) (by ((try simp only [LA7, hFv, Sim_seen, NoIm_seen, dg, LMS, LY, seval, reduceCtorEq, implies_true]); first | done | exact True.intro | rfl)) (by simp only [LA7, hFv, Sim_seen, NoIm_seen, dg, LMS, LX, implies_true]) (by simp only [LA7, hFv, Sim_seen, NoIm_seen, dg, LMS, LX, implies_true]) ?_
                    (simp (maxSteps := 4000000) only [LA7, hFv, ren_seen, LM, w2, LZ, seval, reduceCtorEq, forall_const])
                    refine ⟨j + 1, by omega, by omega, ?_⟩
                    rw [ej]
                    have h3 : H2 (T (5 * r + 5)) (T (5 * r + j + 1)) = HSN (T (5 * r + 5)) (T (5 * r + j + 1)) := by rw [H2, if_neg h5]; exact if_pos hn'
                    have h4 : k2 (T (5 * r + 5)) (T (5 * r + j + 1)) = 13 := by rw [k2, if_neg h5]; exact if_pos hn'
                    rw [h3, h4]
                    refine Weak.fr [0, 1, 2, 3, 4, 5, 6, 7, 8, 9, 10, 11, 12] [] hx (by simp only [fr_length]) (by decide) ?_ ?_
                    · simp only [LY, seval, reduceCtorEq, implies_true]
                    · simp only [LA7, hFv, Sim_seen, dg, LMS, LY, seval, reduceCtorEq, implies_true]
                  · have hm : Runs M 70 [.ptr 5 [], .ptr 0 []] _ _ _ := h
                    simp only [Nh, Sh, hFv] at hm
                    refine call_mA [6, 7, 8, 9, 10, 11] (hm) (by decide) (by rfl) (by ((try simp only [LA7, hFv, Sim_seen, NoIm_seen, dg, LMS, LY, seval, reduceCtorEq, implies_true]); first | done | exact True.intro | rfl)) (by ((try simp only [LA7, hFv, Sim_seen, NoIm_seen, dg, LMS, LY, seval, reduceCtorEq, implies_true]); first | done | exact True.intro | rfl)) (by simp only [LA7, hFv, Sim_seen, NoIm_seen, dg, LMS, LX, implies_true]) (by simp only [LA7, hFv, Sim_seen, NoIm_seen, dg, LMS, LX, implies_true]) ?_
                    (simp (maxSteps := 4000000) only [LA7, hFv, ren_seen, LM, w2, LZ, seval, reduceCtorEq, forall_const])
                    refine ⟨j + 1, by omega, by omega, ?_⟩
                    rw [ej]
                    have h3 : H2 (T (5 * r + 5)) (T (5 * r + j + 1)) = HSS (T (5 * r + 5)) (T (5 * r + j + 1)) := by rw [H2, if_neg h5, if_neg (Nat.pos_iff_ne_zero.1 hn')]
                    have h4 : k2 (T (5 * r + 5)) (T (5 * r + j + 1)) = 14 := by rw [k2, if_neg h5, if_neg (Nat.pos_iff_ne_zero.1 hn')]
                    rw [h3, h4]
                    refine Weak.fr [0, 1, 2, 3, 4, 5, 6, 7, 8, 9, 10, 11, 12, 61] [] hx (by simp only [fr_length]) (by decide) ?_ ?_
                    · simp only [LY, seval, reduceCtorEq, implies_true]
                    · simp only [LA7, hFv, Sim_seen, dg, LMS, LY, seval, reduceCtorEq, implies_true]
                  · exact absurd hz' (Nat.pos_iff_ne_zero.1 h0')
                  · exact absurd hz' (Nat.pos_iff_ne_zero.1 h0')
              · have h3 : H2 (T (5 * r + 5)) (T (5 * r + j)) = HSS (T (5 * r + 5)) (T (5 * r + j)) := by rw [H2, if_neg h5, if_neg hz']
                have h4 : k2 (T (5 * r + 5)) (T (5 * r + j)) = 14 := by rw [k2, if_neg h5, if_neg hz']
                rw [h3, h4]
                by_cases hj5 : j = 5
                · subst hj5
                  (simp (maxSteps := 4000000) only [w1, LZ, seval, reduceCtorEq, forall_const])
                  refine ⟨r + 1, by omega, by omega, ?_⟩
                  rw [e5]
                  have h3 : H2 (T (5 * r + 5)) (T (5 * r + 5)) = HSS (T (5 * r + 5)) (T (5 * r + 5)) := by rw [H2, if_neg h5, if_neg h5]
                  have h4 : k2 (T (5 * r + 5)) (T (5 * r + 5)) = 14 := by rw [k2, if_neg h5, if_neg h5]
                  rw [h3, h4]
                  refine Weak.fr [0, 1, 2, 3, 4, 5, 6, 7, 8, 9, 10, 11, 12, 13] [] hx (by simp only [fr_length]) (by decide) ?_ ?_
                  · simp only [LY, seval, reduceCtorEq, implies_true]
                  · simp only [LA7, hFv, Sim_seen, dg, LMS, LY, seval, reduceCtorEq, implies_true]
                · have d1 : ((j : Int) < 5) = True := eq_true (by omega)
                  (simp (maxSteps := 4000000) only [d1, LA7, hFv, LZ, seval, reduceCtorEq, forall_const])
                  rcases hst.1 with ⟨h, hw⟩ | ⟨h0', -, -⟩ | ⟨h0', -, -⟩ | ⟨-, hn', h⟩ | ⟨-, hn', h⟩
                  · have hm : Runs M 70 [.ptr 0 [], .ptr 1 []] [(0, (T (5 * r + j)).m.v)] 2 _ := h
                    simp only [hFv] at hm
                    have v1 : (T (5 * r + j + 1)).w = (T (5 * r + j)).w := by rw [hw]
                    have v2 : (T (5 * r + j + 1)).l = (T (5 * r + j)).l := by rw [hw]
                    have v3 : (T (5 * r + j + 1)).n = (T (5 * r + j)).n := by rw [hw]
                    have v4 : (T (5 * r + j + 1)).q = (T (5 * r + j)).q := by rw [hw]
                    clear hw
                    refine call_mB [11, 6] [11] (hm) (by rfl) (by rfl) (by decide) (by rfl) (by rfl) (by ((try simp only [mach, LY, seval, reduceCtorEq, implies_true]); first | done | exact True.intro | rfl)) (by ((try simp only [mach, LY, seval, reduceCtorEq, implies_true]); first | done | exact True.intro | rfl)) (by simp only [mach, LX, implies_true]) (by simp only [mach, LX, implies_true]) ?_
                    (simp (maxSteps := 4000000) only [LA7, hFv, ren_seen, LM, w2, LZ, seval, reduceCtorEq, forall_const])
                    refine ⟨j + 1, by omega, by omega, ?_⟩
                    rw [ej]
                    have h3 : H2 (T (5 * r + 5)) (T (5 * r + j + 1)) = HSS (T (5 * r + 5)) (T (5 * r + j + 1)) := by rw [H2, if_neg h5, if_neg (by rw [v3]; exact hz')]
                    have h4 : k2 (T (5 * r + 5)) (T (5 * r + j + 1)) = 14 := by rw [k2, if_neg h5, if_neg (by rw [v3]; exact hz')]
                    rw [h3, h4]
                    refine Weak.fr [0, 1, 2, 3, 4, 5, 6, 7, 8, 9, 10, 11, 12, 13] [] hx (by simp only [fr_length]) (by decide) ?_ ?_
                    · simp only [LY, seval, reduceCtorEq, implies_true]
                    · simp only [v1, v2, v3, v4, LA7, hFv, Sim_seen, dg, LMS, LY, seval, reduceCtorEq, implies_true]
                  · exact absurd h0' hz'
                  · exact absurd h0' hz'
                  · have hm : Runs M 70 [.ptr 5 [], .ptr 0 []] _ _ _ := h
                    simp only [Nh, Sh, hFv] at hm
                    refine call_mA [6, 7, 8, 9, 10, 11, 13] (hm) (by decide) (by rfl) (by ((try simp only [LA7, hFv, Sim_seen, NoIm_seen, dg, LMS, LY, seval, reduceCtorEq, implies_true]); first | done | exact True.intro | rfl)) (by ((try simp only [LA7, hFv, Sim_seen, NoIm_seen, dg, LMS, LY, seval, reduceCtorEq, implies_true]); first | done | exact True.intro | rfl)) (by simp only [LA7, hFv, Sim_seen, NoIm_seen, dg, LMS, LX, implies_true]) (by simp only [LA7, hFv, Sim_seen, NoIm_seen, dg, LMS, LX, implies_true]) ?_
                    (simp (maxSteps := 4000000) only [LA7, hFv, ren_seen, LM, w2, LZ, seval, reduceCtorEq, forall_const])
                    refine ⟨j + 1, by omega, by omega, ?_⟩
                    rw [ej]
                    have h3 : H2 (T (5 * r + 5)) (T (5 * r + j + 1)) = HSS (T (5 * r + 5)) (T (5 * r + j + 1)) := by rw [H2, if_neg h5, if_neg (Nat.pos_iff_ne_zero.1 hn')]
                    have h4 : k2 (T (5 * r + 5)) (T (5 * r + j + 1)) = 14 := by rw [k2, if_neg h5, if_neg (Nat.pos_iff_ne_zero.1 hn')]
                    rw [h3, h4]
                    refine Weak.fr [0, 1, 2, 3, 4, 5, 6, 7, 8, 9, 10, 11, 12, 13] [] hx (by simp only [fr_length]) (by decide) ?_ ?_
                    · simp only [LY, seval, reduceCtorEq, implies_true]
                    · simp only [LA7, hFv, Sim_seen, dg, LMS, LY, seval, reduceCtorEq, implies_true]
                  · have hm : Runs M 70 [.ptr 5 [], .ptr 0 []] _ _ _ := h
                    simp only [Nh, Sh, hFv] at hm
                    refine call_mA [6, 7, 8, 9, 10, 11, 13] (hm) (by decide) (by rfl) (by ((try simp only [LA7, hFv, Sim_seen, NoIm_seen, dg, LMS, LY, seval, reduceCtorEq, implies_true]); first | done | exact True.intro | rfl)) (by ((try simp only [LA7, hFv, Sim_seen, NoIm_seen, dg, LMS, LY, seval, reduceCtorEq, implies_true]); first | done | exact True.intro | rfl)) (by simp only [LA7, hFv, Sim_seen, NoIm_seen, dg, LMS, LX, implies_true]) (by simp only [LA7, hFv, Sim_seen, NoIm_seen, dg, LMS, LX, implies_true]) ?_
                    (simp (maxSteps := 4000000) only [LA7, hFv, ren_seen, LM, w2, LZ, seval, reduceCtorEq, forall_const])
                    refine ⟨j + 1, by omega, by omega, ?_⟩
                    rw [ej]
                    have h3 : H2 (T (5 * r + 5)) (T (5 * r + j + 1)) = HSS (T (5 * r + 5)) (T (5 * r + j + 1)) := by rw [H2, if_neg h5, if_neg (Nat.pos_iff_ne_zero.1 hn')]
                    have h4 : k2 (T (5 * r + 5)) (T (5 * r + j + 1)) = 14 := by rw [k2, if_neg h5, if_neg (Nat.pos_iff_ne_zero.1 hn')]
                    rw [h3, h4]
                    refine Weak.fr [0, 1, 2, 3, 4, 5, 6, 7, 8, 9, 10, 11, 12, 62] [] hx (by simp only [fr_length]) (by decide) ?_ ?_
                    · simp only [LY, seval, reduceCtorEq, implies_true]
                    · simp only [LA7, hFv, Sim_seen, dg, LMS, LY, seval, reduceCtorEq, implies_true]
end Mv
