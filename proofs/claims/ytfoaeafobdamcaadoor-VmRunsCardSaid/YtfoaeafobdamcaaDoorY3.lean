/- A step, in general. -/
import Derived.Test.YtfoaeafobdamcaaDoorW1
import Derived.Test.YtfoaeafobdamcaaDoorY1
import Derived.Test.YtfoaeafobdamcaaDoorY2
set_option linter.unusedSimpArgs false
set_option linter.unusedVariables false
namespace Mv
open Go
set_option maxRecDepth 20000
set_option maxHeartbeats 4000000
set_option linter.unusedSimpArgs false

/-- A store and a machine: what the store has, which digests were asked (n of them, 0: the list is nil), the machine. -/
structure SM where
  w : WS
  l : List (Dg × Bool)
  n : Nat
  q : Nat → Dg
  m : Mc

/-- The blocks: 0 to 4 the store, 5 the machine, b the list of what was asked. -/
def Nh (s : SM) : Hp := stoH' s.w .nils s.l ++ [(5, s.m.v)]
def Sh (b : Nat) (s : SM) : Hp := stoH' s.w (.sl b [] 0 s.n 32) s.l ++ [(5, s.m.v), (b, .ar 32 s.n fun i => dg (s.q i))]
theorem appC (a : Nat × V) (l m : Hp) : (a :: l) ++ m = a :: (l ++ m) := rfl
theorem appN (l : Hp) : ([] : Hp) ++ l = l := rfl
set_option linter.defProp false
def LA6 := And.intro (And.intro (And.intro @Nh.eq_1 @Sh.eq_1) (And.intro @stoH'.eq_1 @stoV.eq_1)) (And.intro (And.intro @kinV.eq_1 @mach.eq_1) (And.intro @appC @appN))
/-- A method of a machine with a store leads from here to there; by which contract. -/
inductive TrR (M : Seat) (f : Nat) (ex : List V) (r : V) (s s' : SM) : Prop
  | mach (h : Runs M f (.ptr 0 [] :: .ptr 1 [] :: ex) [(0, s.m.v)] 2 (fun v H' k' => v = r ∧ H' = [(0, s'.m.v)] ∧ k' = 2)) (hw : s' = { s with m := s'.m })
  | NN (h0 : s.n = 0) (h1 : s'.n = 0) (h : Runs M f (.ptr 5 [] :: .ptr 0 [] :: ex) (Nh s) 6 (fun v H' k' => v = r ∧ H' = Nh s' ∧ k' = 6))
  | NS (h0 : s.n = 0) (h1 : 0 < s'.n) (h : Runs M f (.ptr 5 [] :: .ptr 0 [] :: ex) (Nh s) 6 (fun v H' k' => v = r ∧ H' = Sh 6 s' ∧ k' = 7))
  | SS (h0 : 0 < s.n) (h1 : 0 < s'.n) (h : Runs M f (.ptr 5 [] :: .ptr 0 [] :: ex) (Sh 6 s) 7 (fun v H' k' => v = r ∧ H' = Sh 6 s' ∧ k' = 7))
  | SN (h0 : 0 < s.n) (h1 : 0 < s'.n) (h : Runs M f (.ptr 5 [] :: .ptr 0 [] :: ex) (Sh 6 s) 7 (fun v H' k' => v = r ∧ H' = Sh 7 s' ∧ k' = 8))
abbrev StepR (M : Seat) (s s' : SM) : Prop := TrR M 70 [] .nili s s' ∧ s'.n ≤ s.n + 1

theorem wi_le {a n : BitVec 64} (h : wi a n = true) : a.toNat + n.toNat ≤ 8192 := by
  unfold wi at h
  simp only [Bool.and_eq_true, decide_eq_true_eq, BitVec.le_def, BitVec.toNat_sub] at h
  have e : (8192#64).toNat = 8192 := rfl
  rw [e] at h
  omega

theorem ex_Step {M : Seat} (okA : OkA M) (ok : OkO M) (okP : OkP M) (s : SM) (hs : s.n < 1099511627776) : ∃ s', StepR M s s' := by
  obtain ⟨w, l, n, q, m⟩ := s
  by_cases ha : asks m
  · obtain ⟨f, g, pc, hl, xt⟩ := m
    obtain ⟨h1, hpc, h2, ho⟩ := ha
    dsimp only at h1 hpc h2 ho hs
    subst h1
    rcases ho with ⟨hop, hw⟩ | ⟨hop, hw⟩
    · simp only [Bool.and_eq_true] at hw
      have ha := wi_le hw.1
      have hb := wi_le hw.2
      cases n with
      | zero => exact ⟨⟨_, l, 0, q, ⟨_, g, _, false, xt⟩⟩, .intro (.NN rfl rfl (runs_StepHash okA ok w l f g pc xt hpc _ rfl hop h2 ha hb)) (by simp)⟩
      | succ n => exact ⟨⟨_, l, n + 1, q, ⟨_, g, _, false, xt⟩⟩, .intro (.SS (Nat.succ_pos _) (Nat.succ_pos _) (runs_StepHashS (n + 1) q okA ok w l f g pc xt hpc _ rfl hop h2 ha hb)) (by simp)⟩
    · simp only [Bool.and_eq_true] at hw
      have ha := wi_le hw.1
      have hb := wi_le hw.2
      obtain ⟨D, hD⟩ : ∃ D, Dg.mk' (byWs fun j => f ((g (pF (f pc.toNat) 48)).toNat + j)) = D := ⟨_, rfl⟩
      obtain ⟨sn, hs'⟩ : ∃ sn, was l D sn := by
        cases hc : lkp D l with
        | none => exact ⟨false, .inr ⟨rfl, .inl hc⟩⟩
        | some b => cases b with
          | false => exact ⟨false, .inr ⟨rfl, .inr hc⟩⟩
          | true => exact ⟨true, .inl ⟨rfl, hc⟩⟩
      obtain ⟨m', hm⟩ : ∃ m' : Mc, pQ f g pc xt (g (pF (f pc.toNat) 44)) (lkp D w.pres) = m'.v := by
        cases lkp D w.pres <;> exact ⟨⟨_, _, _, _, _⟩, rfl⟩
      cases n with
      | zero =>
        have h := runs_StepPN okA ok w l f g pc xt hpc _ rfl hop h2 ha hb D hD _ sn rfl hs'
        rw [hm] at h
        cases sn with
        | true => exact ⟨⟨w, l, 0, q, m'⟩, .intro (.NN rfl rfl h) (by simp)⟩
        | false => exact ⟨⟨w, _, 1, fun _ => D, m'⟩, .intro (.NS rfl Nat.one_pos h) (by simp)⟩
      | succ n =>
        have h := runs_StepPS okA ok w (n + 1) hs q l f g pc xt hpc _ rfl hop h2 ha hb D hD _ sn rfl hs'
        rw [hm] at h
        cases sn with
        | true => exact ⟨⟨w, l, n + 1, q, m'⟩, .intro (.SS (Nat.succ_pos _) (Nat.succ_pos _) h) (by simp)⟩
        | false => exact ⟨⟨w, _, n + 1 + 1, _, m'⟩, .intro (.SN (Nat.succ_pos _) (Nat.succ_pos _) h) (by simp)⟩
  · obtain ⟨m', hm⟩ := ex_StepM ok okP m ha
    exact ⟨⟨w, l, n, q, m'⟩, .mach hm rfl, Nat.le_succ _⟩
end Mv
namespace Mv
open Go
set_option maxRecDepth 20000
set_option maxHeartbeats 4000000
set_option linter.unusedSimpArgs false

structure OkT (M : Seat) : Prop where
  okA : OkA M
  ok : OkO M
  okP : OkP M

theorem ex_StepH {M : Seat} (ok : OkT M) (s : SM) : ∃ s', s.n < 1099511627776 → StepR M s s' ∧ (s.m.hl = true → s' = s) := by
  by_cases hl : s.m.hl = true
  · refine ⟨s, fun _ => ⟨⟨.mach ?_ rfl, Nat.le_succ _⟩, fun _ => rfl⟩⟩
    obtain ⟨w, l, n, q, f, g, pc, h, xt⟩ := s
    dsimp only at hl
    subst hl
    exact runs_StepHalted ok.ok.toOkV f g pc xt
  · by_cases hn : s.n < 1099511627776
    · obtain ⟨s', h⟩ := ex_Step ok.okA ok.ok ok.okP s hn
      exact ⟨s', fun _ => ⟨h, fun h => absurd h hl⟩⟩
    · exact ⟨s, fun h => absurd h hn⟩
/-- What a step leads to. -/
noncomputable def nxt {M : Seat} (ok : OkT M) (s : SM) : SM := Classical.choose (ex_StepH ok s)
theorem nxt_R {M : Seat} (ok : OkT M) (s : SM) (hn : s.n < 1099511627776) : StepR M s (nxt ok s) := (Classical.choose_spec (ex_StepH ok s) hn).1
theorem nxt_h {M : Seat} (ok : OkT M) (s : SM) (hn : s.n < 1099511627776) (hl : s.m.hl = true) : nxt ok s = s := (Classical.choose_spec (ex_StepH ok s) hn).2 hl
/-- What n steps lead to; how many of them the machine was not halted at. -/
noncomputable def its {M : Seat} (ok : OkT M) (s : SM) : Nat → SM
  | 0 => s
  | i + 1 => nxt ok (its ok s i)
noncomputable def cnt {M : Seat} (ok : OkT M) (s : SM) : Nat → Nat
  | 0 => 0
  | i + 1 => if (its ok s i).m.hl = true then cnt ok s i else cnt ok s i + 1
theorem its_n {M : Seat} (ok : OkT M) (s : SM) (hn : s.n < 549755813888) : ∀ i, i < 549755813888 → (its ok s i).n ≤ s.n + i
  | 0, _ => Nat.le_refl _
  | i + 1, h => by
    have h1 := its_n ok s hn i (by omega)
    have h2 := (nxt_R ok (its ok s i) (by omega)).2
    show (nxt ok (its ok s i)).n ≤ _
    omega
theorem its_R {M : Seat} (ok : OkT M) (s : SM) (hn : s.n < 549755813888) (i : Nat) (hi : i < 549755813888) : StepR M (its ok s i) (its ok s (i + 1)) :=
  nxt_R ok _ (by have := its_n ok s hn i hi; omega)
theorem its_h {M : Seat} (ok : OkT M) (s : SM) (hn : s.n < 549755813888) (i : Nat) (hl : (its ok s i).m.hl = true) : ∀ j, i ≤ j → j < 549755813888 → its ok s j = its ok s i
  | 0, h, _ => by rw [Nat.le_zero.1 h]
  | j + 1, h, hj => by
    rcases Nat.lt_or_ge j i with h' | h'
    · rw [show j + 1 = i by omega]
    · have e := its_h ok s hn i hl j h' (by omega)
      show nxt ok (its ok s j) = _
      rw [e]
      exact nxt_h ok _ (by have := its_n ok s hn i (by omega); omega) hl
theorem cnt_h {M : Seat} (ok : OkT M) (s : SM) (hn : s.n < 549755813888) (i : Nat) (hl : (its ok s i).m.hl = true) : ∀ j, i ≤ j → j < 549755813888 → cnt ok s j = cnt ok s i
  | 0, h, _ => by rw [Nat.le_zero.1 h]
  | j + 1, h, hj => by
    rcases Nat.lt_or_ge j i with h' | h'
    · rw [show j + 1 = i by omega]
    · rw [cnt, its_h ok s hn i hl j h' (by omega), if_pos hl]
      exact cnt_h ok s hn i hl j h' (by omega)
theorem cnt_all {M : Seat} (ok : OkT M) (s : SM) : ∀ i, (∀ j, j < i → ¬ (its ok s j).m.hl = true) → cnt ok s i = i
  | 0, _ => rfl
  | i + 1, h => by rw [cnt, if_neg (h i (by omega)), cnt_all ok s i (fun j hj => h j (by omega))]
theorem cnt_le {M : Seat} (ok : OkT M) (s : SM) : ∀ i, cnt ok s i ≤ i
  | 0 => Nat.le_refl _
  | i + 1 => by
    have := cnt_le ok s i
    rw [cnt]; split <;> omega
end Mv
namespace Mv
open Go
set_option maxRecDepth 20000
set_option maxHeartbeats 4000000
set_option linter.unusedSimpArgs false

noncomputable def hdF (s : SM) : Hp := if s.n = 0 then Nh s else Sh 6 s
noncomputable def kdF (s : SM) : Nat := if s.n = 0 then 6 else 7

theorem runs_RunF {M : Seat} (ok : OkT M) (s : SM) (hs : s.n = 0) (n : Nat) (hn : n < 549755813888) :
    Runs M 71 [.ptr 5 [], .ptr 0 [], .int .i64 n] (Nh s) 6 (fun r H' k' => r = tup2 (.int .i64 (cnt ok s n)) .nili ∧ H' = hdF (its ok s n) ∧ k' = kdF (its ok s n)) := by
  refine runs_fr ok.ok.k71 rfl fun x hx => ?_
  have e0 : ((n : Int) < 0) = False := eq_false (by omega)
  have hv : ∀ m : Mc, m.v = mach m.f m.g m.pc m.hl m.xt := fun _ => rfl
  have hs0 : s.n < 549755813888 := by omega
  refine ex_sound 2000 _ _ _ _ ?_; (simp (maxSteps := 4000000) only [f71, c71, e0, LA6, hv, LZ, seval, reduceCtorEq, forall_const])
  refine loop_rule (σ := Nat) (fun i => i ≤ n ∧ ∀ j, j < i → ¬ (its ok s j).m.hl = true) (fun i => fr 37 [(0, .ptr 5 []), (1, .ptr 0 []), (2, .int .i64 n), (8, .int .i64 i)]) (fun i => hdF (its ok s i)) (fun i => kdF (its ok s i)) (fun i => n - i) 0 ⟨by omega, fun j hj => absurd hj (Nat.not_lt_zero _)⟩ ?_ ?_
  · have h1 : hdF (its ok s 0) = Nh s := if_pos hs
    have h2 : kdF (its ok s 0) = 6 := if_pos hs
    rw [h1, h2]
    refine Weak.fr [0, 1, 2, 3, 4, 5] [] hx (by simp only [fr_length]) (by decide) ?_ ?_
    · simp only [LY, seval, reduceCtorEq, implies_true]
    · simp only [LA6, hv, Sim_seen, LMS, LY, seval, reduceCtorEq, implies_true]
  · rintro i ⟨hi, hnh⟩
    have hst := its_R ok s hs0 i (by omega)
    have hfin : (i = n ∨ (its ok s i).m.hl = true) → its ok s n = its ok s i ∧ cnt ok s n = i := fun h => by
      rcases h with h | h
      · subst h; exact ⟨rfl, cnt_all ok s i hnh⟩
      · exact ⟨its_h ok s hs0 i h n hi hn, by rw [cnt_h ok s hs0 i h n hi hn]; exact cnt_all ok s i hnh⟩
    refine ex_sound 2000 _ _ _ _ ?_
    have hnext : (its ok s i).m.hl = false → ∀ j, j < i + 1 → ¬ (its ok s j).m.hl = true := fun hl j hj => by
      rcases Nat.lt_or_ge j i with h | h
      · exact hnh j h
      · rw [show j = i by omega, hl]; exact Bool.false_ne_true
    generalize hσ' : its ok s (i + 1) = σ' at *
    generalize hσ : its ok s i = σ at *
    have w0 : IntKind.i64.wrap ((i : Int) + 1) = ((i + 1 : Nat) : Int) := by rw [wrap_i64 (by omega)]; omega
    by_cases hz : σ.n = 0
    · have h1 : hdF σ = Nh σ := if_pos hz
      have h2 : kdF σ = 6 := if_pos hz
      rw [h1, h2]
      by_cases hin : i < n
      · have d0 : ((i : Int) < (n : Int)) = True := eq_true (by omega)
        cases hhl : σ.m.hl with
        | true =>
          obtain ⟨q1, q2⟩ := hfin (.inr hhl)
          rw [q1, q2, h1, h2]
          (simp (maxSteps := 4000000) only [d0, LA6, hv, hhl, LZ, seval, reduceCtorEq, forall_const])
          refine RetS.mk hx [0, 1, 2, 3, 4, 5] [] _ _ _ (by decide) (by (simp only [LV, LA6, hv, hhl, Sim_seen, LMS, LZ, seval, reduceCtorEq, forall_const])) (by ((try simp only [LV, LA6, hv, hhl, Sim_seen, LMS, LZ, seval, reduceCtorEq, forall_const, LY, seval, reduceCtorEq, implies_true]); first | done | exact True.intro | (intros; rfl))) (by ((try simp only [LA6, hv, hhl, Sim_seen, LMS, LY, seval, reduceCtorEq, implies_true]); first | done | exact True.intro | (intros; rfl))) ⟨rfl, rfl, rfl⟩
        | false =>
          (simp (maxSteps := 4000000) only [d0, LA6, hv, hhl, LZ, seval, reduceCtorEq, forall_const])
          rcases hst.1 with ⟨h, hw⟩ | ⟨-, h1', h⟩ | ⟨-, h1', h⟩ | ⟨h0, -, -⟩ | ⟨h0, -, -⟩
          · have hm : Runs M 70 [.ptr 0 [], .ptr 1 []] [(0, σ.m.v)] 2 _ := h
            rw [hv σ.m, hhl] at hm
            have w1 : σ'.w = σ.w := by rw [hw]
            have w2 : σ'.l = σ.l := by rw [hw]
            have w3 : σ'.n = σ.n := by rw [hw]
            have w4 : σ'.q = σ.q := by rw [hw]
            have hz' : σ'.n = 0 := by rw [w3]; exact hz
            clear hw
            refine call_mB [5, 0] [5] (hm) (by rfl) (by rfl) (by decide) (by rfl) (by rfl) (by ((try simp only [mach, hv, LY, seval, reduceCtorEq, implies_true]); first | done | exact True.intro | rfl)) (by ((try simp only [mach, hv, LY, seval, reduceCtorEq, implies_true]); first | done | exact True.intro | rfl)) (by simp only [mach, hv, LX, implies_true]) (by simp only [mach, hv, LX, implies_true]) ?_
            (simp (maxSteps := 4000000) only [LA6, hv, ren_seen, LM, w0, LZ, seval, reduceCtorEq, forall_const])
            refine ⟨i + 1, by omega, hnext hhl, by omega, ?_⟩
            rw [hσ']
            have h3 : hdF σ' = Nh σ' := if_pos hz'
            have h4 : kdF σ' = 6 := if_pos hz'
            rw [h3, h4]
            refine Weak.fr [0, 1, 2, 3, 4, 5] [] hx (by simp only [fr_length]) (by decide) ?_ ?_
            · simp only [LY, seval, reduceCtorEq, implies_true]
            · simp only [w1, w2, w3, w4, LA6, hv, Sim_seen, dg, LMS, LY, seval, reduceCtorEq, implies_true]
          · have hm : Runs M 70 [.ptr 5 [], .ptr 0 []] _ _ _ := h
            simp only [Nh, Sh, hv σ.m, hhl] at hm
            have hz' : σ'.n = 0 := h1'
            refine call_mA [0, 1, 2, 3, 4, 5] (hm) (by decide) (by rfl) (by ((try simp only [LA6, hv, Sim_seen, NoIm_seen, dg, LMS, LY, seval, reduceCtorEq, implies_true]); first | done | exact True.intro | rfl)) (by ((try simp only [LA6, hv, Sim_seen, NoIm_seen, dg, LMS, LY, seval, reduceCtorEq, implies_true]); first | done | exact True.intro | rfl)) (by simp only [LA6, hv, Sim_seen, NoIm_seen, dg, LMS, LX, implies_true]) (by simp only [LA6, hv, Sim_seen, NoIm_seen, dg, LMS, LX, implies_true]) ?_
            (simp (maxSteps := 4000000) only [LA6, hv, ren_seen, LM, w0, LZ, seval, reduceCtorEq, forall_const])
            refine ⟨i + 1, by omega, hnext hhl, by omega, ?_⟩
            rw [hσ']
            have h3 : hdF σ' = Nh σ' := if_pos hz'
            have h4 : kdF σ' = 6 := if_pos hz'
            rw [h3, h4]
            refine Weak.fr [0, 1, 2, 3, 4, 5] [] hx (by simp only [fr_length]) (by decide) ?_ ?_
            · simp only [LY, seval, reduceCtorEq, implies_true]
            · simp only [LA6, hv, Sim_seen, dg, LMS, LY, seval, reduceCtorEq, implies_true]
          · have hm : Runs M 70 [.ptr 5 [], .ptr 0 []] _ _ _ := h
            simp only [Nh, Sh, hv σ.m, hhl] at hm
            refine call_mA [0, 1, 2, 3, 4, 5] (hm) (by decide) (by rfl) (by ((try simp only [LA6, hv, Sim_seen, NoIm_seen, dg, LMS, LY, seval, reduceCtorEq, implies_true]); first | done | exact True.intro | rfl)) (by ((try simp only [LA6, hv, Sim_seen, NoIm_seen, dg, LMS, LY, seval, reduceCtorEq, implies_true]); first | done | exact True.intro | rfl)) (by simp only [LA6, hv, Sim_seen, NoIm_seen, dg, LMS, LX, implies_true]) (by simp only [LA6, hv, Sim_seen, NoIm_seen, dg, LMS, LX, implies_true]) ?_
            (simp (maxSteps := 4000000) only [LA6, hv, ren_seen, LM, w0, LZ, seval, reduceCtorEq, forall_const])
            refine ⟨i + 1, by omega, hnext hhl, by omega, ?_⟩
            rw [hσ']
            have h3 : hdF σ' = Sh 6 σ' := if_neg (by omega)
            have h4 : kdF σ' = 7 := if_neg (by omega)
            rw [h3, h4]
            refine Weak.fr [0, 1, 2, 3, 4, 5, 198] [] hx (by simp only [fr_length]) (by decide) ?_ ?_
            · simp only [LY, seval, reduceCtorEq, implies_true]
            · simp only [LA6, hv, Sim_seen, dg, LMS, LY, seval, reduceCtorEq, implies_true]
          · omega
          · omega
      · have d0 : ((i : Int) < (n : Int)) = False := eq_false (by omega)
        obtain ⟨q1, q2⟩ := hfin (.inl (by omega))
        rw [q1, q2, h1, h2]
        (simp (maxSteps := 4000000) only [d0, LA6, hv, LZ, seval, reduceCtorEq, forall_const])
        refine RetS.mk hx [0, 1, 2, 3, 4, 5] [] _ _ _ (by decide) (by (simp only [LV, LA6, hv, Sim_seen, LMS, LZ, seval, reduceCtorEq, forall_const])) (by ((try simp only [LV, LA6, hv, Sim_seen, LMS, LZ, seval, reduceCtorEq, forall_const, LY, seval, reduceCtorEq, implies_true]); first | done | exact True.intro | (intros; rfl))) (by ((try simp only [LA6, hv, Sim_seen, LMS, LY, seval, reduceCtorEq, implies_true]); first | done | exact True.intro | (intros; rfl))) ⟨rfl, rfl, rfl⟩
    · have h1 : hdF σ = Sh 6 σ := if_neg hz
      have h2 : kdF σ = 7 := if_neg hz
      rw [h1, h2]
      by_cases hin : i < n
      · have d0 : ((i : Int) < (n : Int)) = True := eq_true (by omega)
        cases hhl : σ.m.hl with
        | true =>
          obtain ⟨q1, q2⟩ := hfin (.inr hhl)
          rw [q1, q2, h1, h2]
          (simp (maxSteps := 4000000) only [d0, LA6, hv, hhl, LZ, seval, reduceCtorEq, forall_const])
          refine RetS.mk hx [0, 1, 2, 3, 4, 5, 6] [] _ _ _ (by decide) (by (simp only [LV, LA6, hv, hhl, Sim_seen, dg, LMS, LZ, seval, reduceCtorEq, forall_const])) (by ((try simp only [LV, LA6, hv, hhl, Sim_seen, dg, LMS, LZ, seval, reduceCtorEq, forall_const, LY, seval, reduceCtorEq, implies_true]); first | done | exact True.intro | (intros; rfl))) (by ((try simp only [LA6, hv, hhl, Sim_seen, dg, LMS, LY, seval, reduceCtorEq, implies_true]); first | done | exact True.intro | (intros; rfl))) ⟨rfl, rfl, rfl⟩
        | false =>
          (simp (maxSteps := 4000000) only [d0, LA6, hv, hhl, LZ, seval, reduceCtorEq, forall_const])
          rcases hst.1 with ⟨h, hw⟩ | ⟨h0, -, -⟩ | ⟨h0, -, -⟩ | ⟨h0, h1', h⟩ | ⟨h0, h1', h⟩
          · have hm : Runs M 70 [.ptr 0 [], .ptr 1 []] [(0, σ.m.v)] 2 _ := h
            rw [hv σ.m, hhl] at hm
            have w1 : σ'.w = σ.w := by rw [hw]
            have w2 : σ'.l = σ.l := by rw [hw]
            have w3 : σ'.n = σ.n := by rw [hw]
            have w4 : σ'.q = σ.q := by rw [hw]
            clear hw
            refine call_mB [5, 0] [5] (hm) (by rfl) (by rfl) (by decide) (by rfl) (by rfl) (by ((try simp only [mach, hv, LY, seval, reduceCtorEq, implies_true]); first | done | exact True.intro | rfl)) (by ((try simp only [mach, hv, LY, seval, reduceCtorEq, implies_true]); first | done | exact True.intro | rfl)) (by simp only [mach, hv, LX, implies_true]) (by simp only [mach, hv, LX, implies_true]) ?_
            (simp (maxSteps := 4000000) only [LA6, hv, ren_seen, LM, w0, LZ, seval, reduceCtorEq, forall_const])
            refine ⟨i + 1, by omega, hnext hhl, by omega, ?_⟩
            rw [hσ']
            have h3 : hdF σ' = Sh 6 σ' := if_neg (by omega)
            have h4 : kdF σ' = 7 := if_neg (by omega)
            rw [h3, h4]
            refine Weak.fr [0, 1, 2, 3, 4, 5, 6] [] hx (by simp only [fr_length]) (by decide) ?_ ?_
            · simp only [LY, seval, reduceCtorEq, implies_true]
            · simp only [w1, w2, w3, w4, LA6, hv, Sim_seen, dg, LMS, LY, seval, reduceCtorEq, implies_true]
          · exact absurd h0 hz
          · exact absurd h0 hz
          · have hm : Runs M 70 [.ptr 5 [], .ptr 0 []] _ _ _ := h
            simp only [Nh, Sh, hv σ.m, hhl] at hm
            refine call_mA [0, 1, 2, 3, 4, 5, 6] (hm) (by decide) (by rfl) (by ((try simp only [LA6, hv, Sim_seen, NoIm_seen, dg, LMS, LY, seval, reduceCtorEq, implies_true]); first | done | exact True.intro | rfl)) (by ((try simp only [LA6, hv, Sim_seen, NoIm_seen, dg, LMS, LY, seval, reduceCtorEq, implies_true]); first | done | exact True.intro | rfl)) (by simp only [LA6, hv, Sim_seen, NoIm_seen, dg, LMS, LX, implies_true]) (by simp only [LA6, hv, Sim_seen, NoIm_seen, dg, LMS, LX, implies_true]) ?_
            (simp (maxSteps := 4000000) only [LA6, hv, ren_seen, LM, w0, LZ, seval, reduceCtorEq, forall_const])
            refine ⟨i + 1, by omega, hnext hhl, by omega, ?_⟩
            rw [hσ']
            have h3 : hdF σ' = Sh 6 σ' := if_neg (by omega)
            have h4 : kdF σ' = 7 := if_neg (by omega)
            rw [h3, h4]
            refine Weak.fr [0, 1, 2, 3, 4, 5, 6] [] hx (by simp only [fr_length]) (by decide) ?_ ?_
            · simp only [LY, seval, reduceCtorEq, implies_true]
            · simp only [LA6, hv, Sim_seen, dg, LMS, LY, seval, reduceCtorEq, implies_true]
          · have hm : Runs M 70 [.ptr 5 [], .ptr 0 []] _ _ _ := h
            simp only [Nh, Sh, hv σ.m, hhl] at hm
            refine call_mA [0, 1, 2, 3, 4, 5, 6] (hm) (by decide) (by rfl) (by ((try simp only [LA6, hv, Sim_seen, NoIm_seen, dg, LMS, LY, seval, reduceCtorEq, implies_true]); first | done | exact True.intro | rfl)) (by ((try simp only [LA6, hv, Sim_seen, NoIm_seen, dg, LMS, LY, seval, reduceCtorEq, implies_true]); first | done | exact True.intro | rfl)) (by simp only [LA6, hv, Sim_seen, NoIm_seen, dg, LMS, LX, implies_true]) (by simp only [LA6, hv, Sim_seen, NoIm_seen, dg, LMS, LX, implies_true]) ?_
            (simp (maxSteps := 4000000) only [LA6, hv, ren_seen, LM, w0, LZ, seval, reduceCtorEq, forall_const])
            refine ⟨i + 1, by omega, hnext hhl, by omega, ?_⟩
            rw [hσ']
            have h3 : hdF σ' = Sh 6 σ' := if_neg (by omega)
            have h4 : kdF σ' = 7 := if_neg (by omega)
            rw [h3, h4]
            refine Weak.fr [0, 1, 2, 3, 4, 5, 199] [] hx (by simp only [fr_length]) (by decide) ?_ ?_
            · simp only [LY, seval, reduceCtorEq, implies_true]
            · simp only [LA6, hv, Sim_seen, dg, LMS, LY, seval, reduceCtorEq, implies_true]
      · have d0 : ((i : Int) < (n : Int)) = False := eq_false (by omega)
        obtain ⟨q1, q2⟩ := hfin (.inl (by omega))
        rw [q1, q2, h1, h2]
        (simp (maxSteps := 4000000) only [d0, LA6, hv, LZ, seval, reduceCtorEq, forall_const])
        refine RetS.mk hx [0, 1, 2, 3, 4, 5, 6] [] _ _ _ (by decide) (by (simp only [LV, LA6, hv, Sim_seen, dg, LMS, LZ, seval, reduceCtorEq, forall_const])) (by ((try simp only [LV, LA6, hv, Sim_seen, dg, LMS, LZ, seval, reduceCtorEq, forall_const, LY, seval, reduceCtorEq, implies_true]); first | done | exact True.intro | (intros; rfl))) (by ((try simp only [LA6, hv, Sim_seen, dg, LMS, LY, seval, reduceCtorEq, implies_true]); first | done | exact True.intro | (intros; rfl))) ⟨rfl, rfl, rfl⟩
end Mv
