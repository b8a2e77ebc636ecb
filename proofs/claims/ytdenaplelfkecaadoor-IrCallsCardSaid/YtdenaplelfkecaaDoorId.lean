/- The small language: calls, blocks, statements, loops. -/
import Derived.Test.YtdenaplelfkecaaDoorW1
import Derived.Test.YtdenaplelfkecaaDoorIa
set_option linter.unusedSimpArgs false
set_option linter.unusedVariables false
namespace Mv
open Go
set_option maxRecDepth 20000
set_option maxHeartbeats 4000000
set_option linter.unusedSimpArgs false

def BlOK (M : Seat) (P : List Fu) (f : List IrSt → IrS → (Nat → BitVec 64) → Option Rs) (nl : Nat) : Prop :=
  ∀ l s L q, f l s L = some q → gd s → Runs M 341 [.ptr 0 [], stL l, .sl 3 [] 0 nl 1] (irH P s nl L) 4 (fun r H' k' => r = tup2 (W q.v) (.bool q.back) ∧ H' = irH P q.s nl q.L ∧ k' = 4)
def SsOK (M : Seat) (P : List Fu) (f : IrSt → IrS → (Nat → BitVec 64) → Option Rs) (nl : Nat) : Prop :=
  ∀ x s L q, f x s L = some q → gd s → Runs M 447 [.ptr 0 [], stV x, .sl 3 [] 0 nl 1] (irH P s nl L) 4 (fun r H' k' => r = tup2 (W q.v) (.bool q.back) ∧ H' = irH P q.s nl q.L ∧ k' = 4)
def LoOK (M : Seat) (P : List Fu) (f : IrSt → IrS → (Nat → BitVec 64) → Option Rs) (nl : Nat) : Prop :=
  ∀ x s L q, f x s L = some q → gd s → Runs M 483 [.ptr 0 [], stV x, .sl 3 [] 0 nl 1] (irH P s nl L) 4 (fun r H' k' => r = tup2 (W q.v) (.bool q.back) ∧ H' = irH P q.s nl q.L ∧ k' = 4)

theorem bl_block {M : Seat} (ok : OkIr M) (P : List Fu) (f : IrSt → IrS → (Nat → BitVec 64) → Option Rs) (hf : ∀ x s L q, f x s L = some q → gd s → gd q.s) (nl : Nat) (ih : SsOK M P f nl) :
    ∀ l, l.length < 1000000 → ∀ s L q, evB f l s L = some q → gd s → Runs M 341 [.ptr 0 [], stL l, .sl 3 [] 0 nl 1] (irH P s nl L) 4 (fun r H' k' => r = tup2 (W q.v) (.bool q.back) ∧ H' = irH P q.s nl q.L ∧ k' = 4) := by
  intro l hl s L q hq hg
  refine runs_fr ok.k341 rfl fun x hx => ?_
  simp only [irH, rnV]
  refine ex_sound 2000 _ _ _ _ ?_; (simp (maxSteps := 4000000) only [f341, c341, len_stL, LZ, seval, reduceCtorEq, forall_const])
  refine loop_rule (σ := Nat × IrS × (Nat → BitVec 64)) (fun p => p.1 ≤ l.length ∧ gd p.2.1 ∧ evB f (l.drop p.1) p.2.1 p.2.2 = some q) (fun p => fr 34 [(0, .ptr 0 []), (2, .sl 3 [] 0 nl 1), (12, stL l), (13, .int .i64 l.length), (14, .int .i64 p.1)]) (fun p => [(0, rnV P p.2.1), (1, memI p.2.1), (3, .ar 1 nl fun j => W (p.2.2 j))]) (fun _ => 4) (fun p => l.length - p.1) (0, s, L) ⟨Nat.zero_le _, hg, hq⟩ ?_ ?_
  · refine Weak.fr [0, 1, 2, 3] [] hx (by simp only [fr_length]) (by decide) ?_ ?_
    · simp only [LY, seval, reduceCtorEq, implies_true, svst]
    · simp only [rnV, LY, seval, reduceCtorEq, implies_true, sfu, smem]
  rintro ⟨i, s, L⟩ ⟨hle, hg, hq⟩
  simp only at hle hg hq
  refine ex_sound 2000 _ _ _ _ ?_
  simp only [rnV]
  by_cases hin : i = l.length
  · have d0 : ((i : Int) < (l.length : Int)) = False := eq_false (by omega)
    rw [hin, List.drop_length] at hq
    obtain rfl := Option.some.inj hq
    (simp (maxSteps := 4000000) only [d0, LZ, seval, reduceCtorEq, forall_const])
    refine RetS.mk hx [0, 1, 2, 3] [] _ _ _ (by decide) (by (simp only [LV, sfu, smem, LZ, seval, reduceCtorEq, forall_const])) (by ((try simp only [LV, sfu, smem, LZ, seval, reduceCtorEq, forall_const, LY, seval, reduceCtorEq, implies_true]); first | done | exact True.intro | (intros; rfl))) (by ((try simp only [sfu, smem, LY, seval, reduceCtorEq, implies_true]); first | done | exact True.intro | (intros; rfl))) ⟨rfl, rfl, rfl⟩
  · have d0 : ((i : Int) < (l.length : Int)) = True := eq_true (by omega)
    have hlt : i < l.length := by omega
    have hne : l ≠ [] := by rintro rfl; exact absurd hlt (by simp)
    rw [List.drop_eq_getElem_cons hlt] at hq
    simp only [evB] at hq
    cases hq1 : f l[i] s L with
    | none => rw [hq1] at hq; cases hq
    | some q1 =>
    rw [hq1] at hq
    simp only at hq
    have hE := ih _ s L q1 hq1 hg
    have g1 := hf _ _ _ _ hq1 hg
    have hy := stF_get l i hlt
    have w0 : IntKind.i64.wrap ((i : Int) + 1) = ((i + 1 : Nat) : Int) := by rw [wrap_i64 (by omega)]; omega
    simp only [irH, rnV] at hE
    generalize l[i] = y at *
    (simp (maxSteps := 4000000) only [d0, stL_lst l hne, hy, sol_stV, siz_stV, agg_stV, LZ, seval, reduceCtorEq, forall_const])
    repeat (refine And.intro (by first | omega | exact True.intro | rfl) ?_)
    cases hbk : q1.back
    case' true =>
      rw [hbk] at hq hE
      obtain rfl := Option.some.inj hq
      refine call_mN [0, 1, 2, 3] [0, 1, 3] (hE) (by rfl) (by rfl) (by decide) (by rfl) (by rfl) (by ((try simp only [sfu, smem, svs, LY, seval, reduceCtorEq, implies_true]); first | done | exact True.intro | rfl)) (by ((try simp only [sfu, smem, svs, LY, seval, reduceCtorEq, implies_true]); first | done | exact True.intro | rfl)) ?_
      (simp (maxSteps := 4000000) only [ren_fuL, ren_memI, tup2, LZ, seval, reduceCtorEq, forall_const])
      refine RetS.mk hx [0, 1, 2, 3] [] _ _ _ (by decide) (by (simp only [LV, sfu, smem, LZ, seval, reduceCtorEq, forall_const])) (by ((try simp only [LV, sfu, smem, LZ, seval, reduceCtorEq, forall_const, LY, seval, reduceCtorEq, implies_true]); first | done | exact True.intro | (intros; rfl))) (by ((try simp only [sfu, smem, LY, seval, reduceCtorEq, implies_true]); first | done | exact True.intro | (intros; rfl))) ⟨rfl, rfl, rfl⟩
    cases hov : q1.s.over
    case' true =>
      rw [hbk, hov] at hq
      rw [hbk, hov] at hE
      obtain rfl := Option.some.inj hq
      refine call_mN [0, 1, 2, 3] [0, 1, 3] (hE) (by rfl) (by rfl) (by decide) (by rfl) (by rfl) (by ((try simp only [sfu, smem, svs, LY, seval, reduceCtorEq, implies_true]); first | done | exact True.intro | rfl)) (by ((try simp only [sfu, smem, svs, LY, seval, reduceCtorEq, implies_true]); first | done | exact True.intro | rfl)) ?_
      (simp (maxSteps := 4000000) only [ren_fuL, ren_memI, tup2, LZ, seval, reduceCtorEq, forall_const])
      refine RetS.mk hx [0, 1, 2, 3] [] _ _ _ (by decide) (by (simp only [LV, sfu, smem, hov, LZ, seval, reduceCtorEq, forall_const])) (by ((try simp only [LV, sfu, smem, hov, LZ, seval, reduceCtorEq, forall_const, LY, seval, reduceCtorEq, implies_true]); first | done | exact True.intro | (intros; rfl))) (by ((try simp only [sfu, smem, hov, LY, seval, reduceCtorEq, implies_true]); first | done | exact True.intro | (intros; rfl))) ⟨rfl, rfl, rfl⟩
    rw [hbk, hov] at hq
    have hov' := hov
    rw [hbk] at hE
    refine call_mN [0, 1, 2, 3] [0, 1, 3] (hE) (by rfl) (by rfl) (by decide) (by rfl) (by rfl) (by ((try simp only [sfu, smem, svs, LY, seval, reduceCtorEq, implies_true]); first | done | exact True.intro | rfl)) (by ((try simp only [sfu, smem, svs, LY, seval, reduceCtorEq, implies_true]); first | done | exact True.intro | rfl)) ?_
    (simp (maxSteps := 4000000) only [ren_fuL, ren_memI, tup2, hov, w0, LZ, seval, reduceCtorEq, forall_const])
    refine ⟨(i + 1, q1.s, q1.L), by omega, g1, by simpa using hq, by simp only; omega, ?_⟩
    rw [← stL_lst l hne]
    refine Weak.fr [0, 1, 2, 3] [] hx (by simp only [fr_length]) (by decide) ?_ ?_
    · simp only [LY, seval, reduceCtorEq, implies_true, svst]
    · simp only [rnV, LY, seval, reduceCtorEq, implies_true, sfu, smem, hov]
end Mv
namespace Mv
open Go
set_option maxRecDepth 20000
set_option maxHeartbeats 4000000
set_option linter.unusedSimpArgs false

theorem bl_stmt {M : Seat} (ok : OkIr M) (ap : Int → BitVec 64 → BitVec 64 → BitVec 64 → Option (BitVec 64)) (P : List Fu) (k nl : Nat)
    (ihE : ∀ L, ExOK M P (fun x s => ev ap P k (.e x) s L nl) nl L) (ihB : BlOK M P (fun l s L => ev ap P k (.b l) s L nl) nl) (ihL : LoOK M P (fun x s L => ev ap P k (.l x) s L nl) nl) :
    SsOK M P (fun x s L => ev ap P (k + 1) (.s x) s L nl) nl := by
  intro x s L q hq hg
  obtain ⟨kind, n, a, b, body, els⟩ := x
  simp only [ev] at hq
  have hx0 : stV (.mk kind n a b body els) = .st 10 (.fcons 0 (.int .i64 kind) (.fcons 1 (.int .i64 n) (.fcons 2 (exV a) (.fcons 5 (exV b) (.fcons 8 (stL body) (.fcons 9 (stL els) .fnil)))))) := by simp only [stV]
  have hgb := gd_burn hg
  have hB := runs_burn ok P s hg.1 hg.2
  have hmm := mem_burn s
  have hL4 := fun h => ihL (.mk kind n a b body els) s L q h hg
  rw [hx0] at hL4 ⊢
  refine runs_fr ok.k447 rfl fun x hx => ?_
  by_cases h4 : kind = 4
  · rw [if_pos h4] at hq
    have hL4 := hL4 hq
    simp only [irH, rnV] at hL4 ⊢
    refine ex_sound 2000 _ _ _ _ ?_; (simp (maxSteps := 4000000) only [f447, c447, sol_exV, siz_exV, agg_exV, sol_stL, siz_stL, agg_stL, eq_true h4, LZ, seval, reduceCtorEq, forall_const])
    refine call_mN [0, 1, 2, 3] [0, 1, 3] (hL4) (by rfl) (by rfl) (by decide) (by rfl) (by rfl) (by ((try simp only [sfu, smem, svex, sex, sstl, LY, seval, reduceCtorEq, implies_true]); first | done | exact True.intro | rfl)) (by ((try simp only [sfu, smem, svex, sex, sstl, LY, seval, reduceCtorEq, implies_true]); first | done | exact True.intro | rfl)) ?_
    (simp (maxSteps := 4000000) only [ren_fuL, ren_memI, tup2, LZ, seval, reduceCtorEq, forall_const])
    refine RetS.mk hx [0, 1, 2, 3] [] _ _ _ (by decide) (by (simp only [LV, sfu, smem, LZ, seval, reduceCtorEq, forall_const])) (by ((try simp only [LV, sfu, smem, LZ, seval, reduceCtorEq, forall_const, LY, seval, reduceCtorEq, implies_true]); first | done | exact True.intro | (intros; rfl))) (by ((try simp only [sfu, smem, LY, seval, reduceCtorEq, implies_true]); first | done | exact True.intro | (intros; rfl))) ⟨rfl, rfl, rfl⟩
  rw [if_neg h4] at hq
  cases hb : burnB s
  · rw [if_pos hb] at hq
    obtain rfl := Option.some.inj hq
    rw [hb] at hB
    simp only [irH, rnV, hmm] at hB ⊢
    refine ex_sound 2000 _ _ _ _ ?_; (simp (maxSteps := 4000000) only [f447, c447, sol_exV, siz_exV, agg_exV, sol_stL, siz_stL, agg_stL, eq_false h4, LZ, seval, reduceCtorEq, forall_const])
    refine call_mN [0, 1, 2] [0] (hB) (by rfl) (by rfl) (by decide) (by rfl) (by rfl) (by ((try simp only [sfu, LY, seval, reduceCtorEq, implies_true]); first | done | exact True.intro | rfl)) (by ((try simp only [sfu, LY, seval, reduceCtorEq, implies_true]); first | done | exact True.intro | rfl)) ?_
    (simp (maxSteps := 4000000) only [ren_fuL, LZ, seval, reduceCtorEq, forall_const])
    refine RetS.mk hx [0, 1, 2, 3] [] _ _ _ (by decide) (by (simp only [LV, sfu, smem, LZ, seval, reduceCtorEq, forall_const])) (by ((try simp only [LV, sfu, smem, LZ, seval, reduceCtorEq, forall_const, LY, seval, reduceCtorEq, implies_true]); first | done | exact True.intro | (intros; rfl))) (by ((try simp only [sfu, smem, LY, seval, reduceCtorEq, implies_true]); first | done | exact True.intro | (intros; rfl))) ⟨rfl, rfl, rfl⟩
  rw [if_neg (by rw [hb]; decide)] at hq
  rw [hb] at hB
  generalize hs1 : burn s = s1 at *
  simp only [irH, rnV, hmm] at hB ⊢
  cases ha : ev ap P k (.e a) s1 L nl with
  | none => rw [ha] at hq; cases hq
  | some qa =>
  rw [ha] at hq
  simp only at hq
  obtain ⟨ga, hE⟩ := ihE L a s1 qa ha hgb
  simp only [irH, rnV] at hE
  refine ex_sound 2000 _ _ _ _ ?_; (simp (maxSteps := 4000000) only [f447, c447, sol_exV, siz_exV, agg_exV, sol_stL, siz_stL, agg_stL, eq_false h4, LZ, seval, reduceCtorEq, forall_const])
  refine call_mN [0, 1, 2] [0] (hB) (by rfl) (by rfl) (by decide) (by rfl) (by rfl) (by ((try simp only [sfu, LY, seval, reduceCtorEq, implies_true]); first | done | exact True.intro | rfl)) (by ((try simp only [sfu, LY, seval, reduceCtorEq, implies_true]); first | done | exact True.intro | rfl)) ?_
  (simp (maxSteps := 4000000) only [ren_fuL, ren_memI, sol_exV, siz_exV, agg_exV, sol_stL, siz_stL, agg_stL, LZ, seval, reduceCtorEq, forall_const])
  cases hov : qa.s.over
  case' true =>
    rw [hov] at hq hE
    obtain rfl := Option.some.inj hq
    refine call_mN [0, 1, 2, 3] [0, 1, 3] (hE) (by rfl) (by rfl) (by decide) (by rfl) (by rfl) (by ((try simp only [sfu, smem, svx, LY, seval, reduceCtorEq, implies_true]); first | done | exact True.intro | rfl)) (by ((try simp only [sfu, smem, svx, LY, seval, reduceCtorEq, implies_true]); first | done | exact True.intro | rfl)) ?_
    (simp (maxSteps := 4000000) only [ren_fuL, ren_memI, LZ, seval, reduceCtorEq, forall_const])
    refine RetS.mk hx [0, 1, 2, 3] [] _ _ _ (by decide) (by (simp only [LV, sfu, smem, hov, LZ, seval, reduceCtorEq, forall_const])) (by ((try simp only [LV, sfu, smem, hov, LZ, seval, reduceCtorEq, forall_const, LY, seval, reduceCtorEq, implies_true]); first | done | exact True.intro | (intros; rfl))) (by ((try simp only [sfu, smem, hov, LY, seval, reduceCtorEq, implies_true]); first | done | exact True.intro | (intros; rfl))) ⟨rfl, rfl, rfl⟩
  rw [hov] at hq hE
  simp only [Bool.false_eq_true, if_false] at hq
  by_cases h1 : kind = 1
  · rw [if_pos h1] at hq
    by_cases hn : 0 ≤ n ∧ n < nl
    case neg => rw [if_neg hn] at hq; cases hq
    rw [if_pos hn] at hq
    obtain rfl := Option.some.inj hq
    obtain ⟨m, rfl⟩ := Int.eq_ofNat_of_zero_le hn.1
    have hn2 := hn.2
    refine call_mN [0, 1, 2, 3] [0, 1, 3] (hE) (by rfl) (by rfl) (by decide) (by rfl) (by rfl) (by ((try simp only [sfu, smem, svx, LY, seval, reduceCtorEq, implies_true]); first | done | exact True.intro | rfl)) (by ((try simp only [sfu, smem, svx, LY, seval, reduceCtorEq, implies_true]); first | done | exact True.intro | rfl)) ?_
    (simp (maxSteps := 4000000) only [ren_fuL, ren_memI, eq_true h1, sol_exV, siz_exV, agg_exV, sol_stL, siz_stL, agg_stL, LZ, seval, reduceCtorEq, forall_const])
    repeat (refine And.intro (by first | omega | exact True.intro | rfl) ?_)
    refine RetS.mk hx [0, 1, 2, 3] [] _ _ _ (by decide) (by (simp only [LV, LZ, seval, reduceCtorEq, forall_const])) (by ((try simp only [LV, LZ, seval, reduceCtorEq, forall_const, LY, seval, reduceCtorEq, implies_true]); first | done | exact True.intro | (intros; rfl))) ?_ ⟨rfl, rfl, rfl⟩
    simp only [sfu, smem, hov, LY, seval, reduceCtorEq, implies_true]
    intro i hi
    split <;> simp only [LY, seval, reduceCtorEq, implies_true]
  rw [if_neg h1] at hq
  by_cases h2 : kind = 2
  · rw [if_pos h2] at hq
    cases hb2 : ev ap P k (.e b) qa.s L nl with
    | none => rw [hb2] at hq; cases hq
    | some qb =>
    rw [hb2] at hq
    simp only at hq
    obtain ⟨gb, hE2⟩ := ihE L b qa.s qb hb2 ga
    simp only [irH, rnV, hov] at hE2
    refine call_mN [0, 1, 2, 3] [0, 1, 3] (hE) (by rfl) (by rfl) (by decide) (by rfl) (by rfl) (by ((try simp only [sfu, smem, svx, LY, seval, reduceCtorEq, implies_true]); first | done | exact True.intro | rfl)) (by ((try simp only [sfu, smem, svx, LY, seval, reduceCtorEq, implies_true]); first | done | exact True.intro | rfl)) ?_
    (simp (maxSteps := 4000000) only [ren_fuL, ren_memI, eq_false h1, eq_true h2, sol_exV, siz_exV, agg_exV, sol_stL, siz_stL, agg_stL, LZ, seval, reduceCtorEq, forall_const])
    cases hov2 : qb.s.over
    case' true =>
      rw [hov2] at hq hE2
      obtain rfl := Option.some.inj hq
      refine call_mN [0, 1, 2, 3] [0, 1, 3] (hE2) (by rfl) (by rfl) (by decide) (by rfl) (by rfl) (by ((try simp only [sfu, smem, svx, LY, seval, reduceCtorEq, implies_true]); first | done | exact True.intro | rfl)) (by ((try simp only [sfu, smem, svx, LY, seval, reduceCtorEq, implies_true]); first | done | exact True.intro | rfl)) ?_
      (simp (maxSteps := 4000000) only [ren_fuL, ren_memI, LZ, seval, reduceCtorEq, forall_const])
      refine RetS.mk hx [0, 1, 2, 3] [] _ _ _ (by decide) (by (simp only [LV, sfu, smem, hov2, LZ, seval, reduceCtorEq, forall_const])) (by ((try simp only [LV, sfu, smem, hov2, LZ, seval, reduceCtorEq, forall_const, LY, seval, reduceCtorEq, implies_true]); first | done | exact True.intro | (intros; rfl))) (by ((try simp only [sfu, smem, hov2, LY, seval, reduceCtorEq, implies_true]); first | done | exact True.intro | (intros; rfl))) ⟨rfl, rfl, rfl⟩
    rw [hov2] at hq hE2
    simp only [Bool.false_eq_true, if_false] at hq
    have hW := runs_within1 ok qa.v
    by_cases hlt : qa.v < 2048#64
    · rw [if_pos hlt] at hq
      rw [decide_eq_true hlt] at hW
      obtain rfl := Option.some.inj hq
      have hl' : qa.v.toNat < 2048 := hlt
      refine call_mN [0, 1, 2, 3] [0, 1, 3] (hE2) (by rfl) (by rfl) (by decide) (by rfl) (by rfl) (by ((try simp only [sfu, smem, svx, LY, seval, reduceCtorEq, implies_true]); first | done | exact True.intro | rfl)) (by ((try simp only [sfu, smem, svx, LY, seval, reduceCtorEq, implies_true]); first | done | exact True.intro | rfl)) ?_
      (simp (maxSteps := 4000000) only [ren_fuL, ren_memI, LZ, seval, reduceCtorEq, forall_const])
      refine call_pZ (hW) ?_
      (simp (maxSteps := 4000000) only [memI, LZ, seval, reduceCtorEq, forall_const])
      repeat (refine And.intro (by first | omega | exact True.intro | rfl) ?_)
      refine RetS.mk hx [0, 1, 2, 3] [] _ _ _ (by decide) (by (simp only [LV, LZ, seval, reduceCtorEq, forall_const])) (by ((try simp only [LV, LZ, seval, reduceCtorEq, forall_const, LY, seval, reduceCtorEq, implies_true]); first | done | exact True.intro | (intros; rfl))) ?_ ⟨rfl, rfl, rfl⟩
      simp only [sfu, memI, hov2, LY, seval, reduceCtorEq, implies_true]
      intro i hi
      split <;> simp only [LY, seval, reduceCtorEq, implies_true]
    · rw [if_neg hlt] at hq
      rw [decide_eq_false hlt] at hW
      obtain rfl := Option.some.inj hq
      have hEnd := runs_end ok P qb.s 18446744073709551614#64
      simp only [rnV, hov2] at hEnd
      have hme : memI qb.s = memI (endS qb.s 18446744073709551614#64) := by unfold endS; split <;> rfl
      refine call_mN [0, 1, 2, 3] [0, 1, 3] (hE2) (by rfl) (by rfl) (by decide) (by rfl) (by rfl) (by ((try simp only [sfu, smem, svx, LY, seval, reduceCtorEq, implies_true]); first | done | exact True.intro | rfl)) (by ((try simp only [sfu, smem, svx, LY, seval, reduceCtorEq, implies_true]); first | done | exact True.intro | rfl)) ?_
      (simp (maxSteps := 4000000) only [ren_fuL, ren_memI, LZ, seval, reduceCtorEq, forall_const])
      refine call_pZ (hW) ?_
      (simp (maxSteps := 4000000) only [LZ, seval, reduceCtorEq, forall_const])
      refine call_mN [0, 1, 2] [0] (hEnd) (by rfl) (by rfl) (by decide) (by rfl) (by rfl) (by ((try simp only [sfu, LY, seval, reduceCtorEq, implies_true]); first | done | exact True.intro | rfl)) (by ((try simp only [sfu, LY, seval, reduceCtorEq, implies_true]); first | done | exact True.intro | rfl)) ?_
      (simp (maxSteps := 4000000) only [ren_fuL, LZ, seval, reduceCtorEq, forall_const])
      rw [hme]
      refine RetS.mk hx [0, 1, 2, 3] [] _ _ _ (by decide) (by (simp only [LV, sfu, smem, LZ, seval, reduceCtorEq, forall_const])) (by ((try simp only [LV, sfu, smem, LZ, seval, reduceCtorEq, forall_const, LY, seval, reduceCtorEq, implies_true]); first | done | exact True.intro | (intros; rfl))) (by ((try simp only [sfu, smem, LY, seval, reduceCtorEq, implies_true]); first | done | exact True.intro | (intros; rfl))) ⟨rfl, rfl, rfl⟩
  rw [if_neg h2] at hq
  by_cases h3 : kind = 3
  · rw [if_pos h3] at hq
    by_cases hz : qa.v = 0#64
    · rw [if_pos hz] at hq
      have hBl := ihB els qa.s L q hq ga
      simp only [irH, rnV, hov] at hBl
      refine call_mN [0, 1, 2, 3] [0, 1, 3] (hE) (by rfl) (by rfl) (by decide) (by rfl) (by rfl) (by ((try simp only [sfu, smem, svx, LY, seval, reduceCtorEq, implies_true]); first | done | exact True.intro | rfl)) (by ((try simp only [sfu, smem, svx, LY, seval, reduceCtorEq, implies_true]); first | done | exact True.intro | rfl)) ?_
      (simp (maxSteps := 4000000) only [ren_fuL, ren_memI, eq_false h1, eq_false h2, eq_true h3, eq_true hz, sol_exV, siz_exV, agg_exV, sol_stL, siz_stL, agg_stL, LZ, seval, reduceCtorEq, forall_const])
      refine call_mN [0, 1, 2, 3] [0, 1, 3] (hBl) (by rfl) (by rfl) (by decide) (by rfl) (by rfl) (by ((try simp only [sfu, smem, svst, LY, seval, reduceCtorEq, implies_true]); first | done | exact True.intro | rfl)) (by ((try simp only [sfu, smem, svst, LY, seval, reduceCtorEq, implies_true]); first | done | exact True.intro | rfl)) ?_
      (simp (maxSteps := 4000000) only [ren_fuL, ren_memI, tup2, LZ, seval, reduceCtorEq, forall_const])
      refine RetS.mk hx [0, 1, 2, 3] [] _ _ _ (by decide) (by (simp only [LV, sfu, smem, LZ, seval, reduceCtorEq, forall_const])) (by ((try simp only [LV, sfu, smem, LZ, seval, reduceCtorEq, forall_const, LY, seval, reduceCtorEq, implies_true]); first | done | exact True.intro | (intros; rfl))) (by ((try simp only [sfu, smem, LY, seval, reduceCtorEq, implies_true]); first | done | exact True.intro | (intros; rfl))) ⟨rfl, rfl, rfl⟩
    · rw [if_neg hz] at hq
      have hBl := ihB body qa.s L q hq ga
      simp only [irH, rnV, hov] at hBl
      refine call_mN [0, 1, 2, 3] [0, 1, 3] (hE) (by rfl) (by rfl) (by decide) (by rfl) (by rfl) (by ((try simp only [sfu, smem, svx, LY, seval, reduceCtorEq, implies_true]); first | done | exact True.intro | rfl)) (by ((try simp only [sfu, smem, svx, LY, seval, reduceCtorEq, implies_true]); first | done | exact True.intro | rfl)) ?_
      (simp (maxSteps := 4000000) only [ren_fuL, ren_memI, eq_false h1, eq_false h2, eq_true h3, eq_false hz, sol_exV, siz_exV, agg_exV, sol_stL, siz_stL, agg_stL, LZ, seval, reduceCtorEq, forall_const])
      refine call_mN [0, 1, 2, 3] [0, 1, 3] (hBl) (by rfl) (by rfl) (by decide) (by rfl) (by rfl) (by ((try simp only [sfu, smem, svst, LY, seval, reduceCtorEq, implies_true]); first | done | exact True.intro | rfl)) (by ((try simp only [sfu, smem, svst, LY, seval, reduceCtorEq, implies_true]); first | done | exact True.intro | rfl)) ?_
      (simp (maxSteps := 4000000) only [ren_fuL, ren_memI, tup2, LZ, seval, reduceCtorEq, forall_const])
      refine RetS.mk hx [0, 1, 2, 3] [] _ _ _ (by decide) (by (simp only [LV, sfu, smem, LZ, seval, reduceCtorEq, forall_const])) (by ((try simp only [LV, sfu, smem, LZ, seval, reduceCtorEq, forall_const, LY, seval, reduceCtorEq, implies_true]); first | done | exact True.intro | (intros; rfl))) (by ((try simp only [sfu, smem, LY, seval, reduceCtorEq, implies_true]); first | done | exact True.intro | (intros; rfl))) ⟨rfl, rfl, rfl⟩
  rw [if_neg h3] at hq
  by_cases h5 : kind = 5
  · rw [if_pos h5] at hq
    obtain rfl := Option.some.inj hq
    refine call_mN [0, 1, 2, 3] [0, 1, 3] (hE) (by rfl) (by rfl) (by decide) (by rfl) (by rfl) (by ((try simp only [sfu, smem, svx, LY, seval, reduceCtorEq, implies_true]); first | done | exact True.intro | rfl)) (by ((try simp only [sfu, smem, svx, LY, seval, reduceCtorEq, implies_true]); first | done | exact True.intro | rfl)) ?_
    (simp (maxSteps := 4000000) only [ren_fuL, ren_memI, eq_false h1, eq_false h2, eq_false h3, eq_true h5, sol_exV, siz_exV, agg_exV, sol_stL, siz_stL, agg_stL, LZ, seval, reduceCtorEq, forall_const])
    refine RetS.mk hx [0, 1, 2, 3] [] _ _ _ (by decide) (by (simp only [LV, sfu, smem, hov, LZ, seval, reduceCtorEq, forall_const])) (by ((try simp only [LV, sfu, smem, hov, LZ, seval, reduceCtorEq, forall_const, LY, seval, reduceCtorEq, implies_true]); first | done | exact True.intro | (intros; rfl))) (by ((try simp only [sfu, smem, hov, LY, seval, reduceCtorEq, implies_true]); first | done | exact True.intro | (intros; rfl))) ⟨rfl, rfl, rfl⟩
  rw [if_neg h5] at hq
  by_cases h7 : kind = 7
  · rw [if_pos h7] at hq
    obtain rfl := Option.some.inj hq
    have hEnd := runs_end ok P qa.s qa.v
    simp only [rnV, hov] at hEnd
    have hme : memI qa.s = memI (endS qa.s qa.v) := by unfold endS; split <;> rfl
    refine call_mN [0, 1, 2, 3] [0, 1, 3] (hE) (by rfl) (by rfl) (by decide) (by rfl) (by rfl) (by ((try simp only [sfu, smem, svx, LY, seval, reduceCtorEq, implies_true]); first | done | exact True.intro | rfl)) (by ((try simp only [sfu, smem, svx, LY, seval, reduceCtorEq, implies_true]); first | done | exact True.intro | rfl)) ?_
    (simp (maxSteps := 4000000) only [ren_fuL, ren_memI, eq_false h1, eq_false h2, eq_false h3, eq_false h5, eq_true h7, sol_exV, siz_exV, agg_exV, sol_stL, siz_stL, agg_stL, LZ, seval, reduceCtorEq, forall_const])
    refine call_mN [0, 1, 2] [0] (hEnd) (by rfl) (by rfl) (by decide) (by rfl) (by rfl) (by ((try simp only [sfu, LY, seval, reduceCtorEq, implies_true]); first | done | exact True.intro | rfl)) (by ((try simp only [sfu, LY, seval, reduceCtorEq, implies_true]); first | done | exact True.intro | rfl)) ?_
    (simp (maxSteps := 4000000) only [ren_fuL, LZ, seval, reduceCtorEq, forall_const])
    rw [hme]
    refine RetS.mk hx [0, 1, 2, 3] [] _ _ _ (by decide) (by (simp only [LV, sfu, smem, LZ, seval, reduceCtorEq, forall_const])) (by ((try simp only [LV, sfu, smem, LZ, seval, reduceCtorEq, forall_const, LY, seval, reduceCtorEq, implies_true]); first | done | exact True.intro | (intros; rfl))) (by ((try simp only [sfu, smem, LY, seval, reduceCtorEq, implies_true]); first | done | exact True.intro | (intros; rfl))) ⟨rfl, rfl, rfl⟩
  rw [if_neg h7] at hq
  obtain rfl := Option.some.inj hq
  refine call_mN [0, 1, 2, 3] [0, 1, 3] (hE) (by rfl) (by rfl) (by decide) (by rfl) (by rfl) (by ((try simp only [sfu, smem, svx, LY, seval, reduceCtorEq, implies_true]); first | done | exact True.intro | rfl)) (by ((try simp only [sfu, smem, svx, LY, seval, reduceCtorEq, implies_true]); first | done | exact True.intro | rfl)) ?_
  (simp (maxSteps := 4000000) only [ren_fuL, ren_memI, eq_false h1, eq_false h2, eq_false h3, eq_false h5, eq_false h7, sol_exV, siz_exV, agg_exV, sol_stL, siz_stL, agg_stL, LZ, seval, reduceCtorEq, forall_const])
  refine RetS.mk hx [0, 1, 2, 3] [] _ _ _ (by decide) (by (simp only [LV, sfu, smem, hov, LZ, seval, reduceCtorEq, forall_const])) (by ((try simp only [LV, sfu, smem, hov, LZ, seval, reduceCtorEq, forall_const, LY, seval, reduceCtorEq, implies_true]); first | done | exact True.intro | (intros; rfl))) (by ((try simp only [sfu, smem, hov, LY, seval, reduceCtorEq, implies_true]); first | done | exact True.intro | (intros; rfl))) ⟨rfl, rfl, rfl⟩

theorem bl_loop {M : Seat} (ok : OkIr M) (ap : Int → BitVec 64 → BitVec 64 → BitVec 64 → Option (BitVec 64)) (P : List Fu) (K nl : Nat)
    (ihE : ∀ k, k < K → ∀ L, ExOK M P (fun x s => ev ap P k (.e x) s L nl) nl L) (ihB : ∀ k, k < K → BlOK M P (fun l s L => ev ap P k (.b l) s L nl) nl) :
    LoOK M P (fun x s L => ev ap P K (.l x) s L nl) nl := by
  intro x s L q hq hg
  obtain ⟨kind, n, a, b, body, els⟩ := x
  have hx0 : stV (.mk kind n a b body els) = .st 10 (.fcons 0 (.int .i64 kind) (.fcons 1 (.int .i64 n) (.fcons 2 (exV a) (.fcons 5 (exV b) (.fcons 8 (stL body) (.fcons 9 (stL els) .fnil)))))) := by simp only [stV]
  rw [hx0]
  refine runs_fr ok.k483 rfl fun x hx => ?_
  simp only [irH, rnV]
  refine ex_sound 2000 _ _ _ _ ?_; (simp (maxSteps := 4000000) only [f483, c483, LZ, seval, reduceCtorEq, forall_const])
  refine loop_rule (σ := Nat × IrS × (Nat → BitVec 64)) (fun p => p.1 ≤ K ∧ gd p.2.1 ∧ ev ap P p.1 (.l (.mk kind n a b body els)) p.2.1 p.2.2 nl = some q) (fun p => fr 34 [(0, .ptr 0 []), (2, .sl 3 [] 0 nl 1), (4, .ptr 4 [])]) (fun p => [(0, rnV P p.2.1), (1, memI p.2.1), (3, .ar 1 nl fun j => W (p.2.2 j)), (4, .st 10 (.fcons 0 (.int .i64 kind) (.fcons 1 (.int .i64 n) (.fcons 2 (exV a) (.fcons 5 (exV b) (.fcons 8 (stL body) (.fcons 9 (stL els) .fnil)))))))]) (fun _ => 5) (fun p => p.1) (K, s, L) ⟨Nat.le_refl _, hg, hq⟩ ?_ ?_
  · refine Weak.fr [0, 1, 2, 3, 4] [] hx (by simp only [fr_length]) (by decide) ?_ ?_
    · simp only [LY, seval, reduceCtorEq, implies_true]
    · simp only [rnV, LY, seval, reduceCtorEq, implies_true, sfu, smem, sex, sstl]
  rintro ⟨k, s, L⟩ ⟨hle, hg, hq⟩
  simp only at hle hg hq
  cases k with
  | zero => simp [ev] at hq
  | succ k =>
  simp only [ev] at hq
  refine ex_sound 2000 _ _ _ _ ?_
  have hgb := gd_burn hg
  have hB := runs_burn ok P s hg.1 hg.2
  have hmm := mem_burn s
  cases hb : burnB s
  · rw [if_pos hb] at hq
    obtain rfl := Option.some.inj hq
    rw [hb] at hB
    simp only [rnV, hmm] at hB ⊢
    (simp (maxSteps := 4000000) only [LZ, seval, reduceCtorEq, forall_const])
    refine call_mN [0, 1, 2] [0] (hB) (by rfl) (by rfl) (by decide) (by rfl) (by rfl) (by ((try simp only [sfu, LY, seval, reduceCtorEq, implies_true]); first | done | exact True.intro | rfl)) (by ((try simp only [sfu, LY, seval, reduceCtorEq, implies_true]); first | done | exact True.intro | rfl)) ?_
    (simp (maxSteps := 4000000) only [ren_fuL, LZ, seval, reduceCtorEq, forall_const])
    refine RetS.mk hx [0, 1, 2, 3] [] _ _ _ (by decide) (by (simp only [LV, sfu, smem, LZ, seval, reduceCtorEq, forall_const])) (by ((try simp only [LV, sfu, smem, LZ, seval, reduceCtorEq, forall_const, LY, seval, reduceCtorEq, implies_true]); first | done | exact True.intro | (intros; rfl))) (by ((try simp only [sfu, smem, LY, seval, reduceCtorEq, implies_true]); first | done | exact True.intro | (intros; rfl))) ⟨rfl, rfl, rfl⟩
  rw [if_neg (by rw [hb]; decide)] at hq
  rw [hb] at hB
  generalize hs1 : burn s = s1 at *
  simp only [rnV, hmm] at hB ⊢
  cases ha : ev ap P k (.e a) s1 L nl with
  | none => rw [ha] at hq; cases hq
  | some qa =>
  rw [ha] at hq
  simp only at hq
  obtain ⟨ga, hE⟩ := ihE k (by omega) L a s1 qa ha hgb
  simp only [irH, rnV] at hE
  (simp (maxSteps := 4000000) only [LZ, seval, reduceCtorEq, forall_const])
  refine call_mN [0, 1, 2] [0] (hB) (by rfl) (by rfl) (by decide) (by rfl) (by rfl) (by ((try simp only [sfu, LY, seval, reduceCtorEq, implies_true]); first | done | exact True.intro | rfl)) (by ((try simp only [sfu, LY, seval, reduceCtorEq, implies_true]); first | done | exact True.intro | rfl)) ?_
  (simp (maxSteps := 4000000) only [ren_fuL, ren_memI, sol_exV, siz_exV, agg_exV, sol_stL, siz_stL, agg_stL, LZ, seval, reduceCtorEq, forall_const])
  cases hov : qa.s.over
  case' true =>
    rw [hov] at hq hE
    obtain rfl := Option.some.inj hq
    refine call_mN [0, 1, 2, 3] [0, 1, 3] (hE) (by rfl) (by rfl) (by decide) (by rfl) (by rfl) (by ((try simp only [sfu, smem, svx, LY, seval, reduceCtorEq, implies_true]); first | done | exact True.intro | rfl)) (by ((try simp only [sfu, smem, svx, LY, seval, reduceCtorEq, implies_true]); first | done | exact True.intro | rfl)) ?_
    (simp (maxSteps := 4000000) only [ren_fuL, ren_memI, LZ, seval, reduceCtorEq, forall_const])
    refine RetS.mk hx [0, 1, 2, 3] [] _ _ _ (by decide) (by (simp only [LV, sfu, smem, hov, LZ, seval, reduceCtorEq, forall_const])) (by ((try simp only [LV, sfu, smem, hov, LZ, seval, reduceCtorEq, forall_const, LY, seval, reduceCtorEq, implies_true]); first | done | exact True.intro | (intros; rfl))) (by ((try simp only [sfu, smem, hov, LY, seval, reduceCtorEq, implies_true]); first | done | exact True.intro | (intros; rfl))) ⟨rfl, rfl, rfl⟩
  rw [hov] at hq hE
  simp only [Bool.false_eq_true, if_false] at hq
  by_cases hz : qa.v = 0#64
  · rw [if_pos hz] at hq
    obtain rfl := Option.some.inj hq
    refine call_mN [0, 1, 2, 3] [0, 1, 3] (hE) (by rfl) (by rfl) (by decide) (by rfl) (by rfl) (by ((try simp only [sfu, smem, svx, LY, seval, reduceCtorEq, implies_true]); first | done | exact True.intro | rfl)) (by ((try simp only [sfu, smem, svx, LY, seval, reduceCtorEq, implies_true]); first | done | exact True.intro | rfl)) ?_
    (simp (maxSteps := 4000000) only [ren_fuL, ren_memI, eq_true hz, LZ, seval, reduceCtorEq, forall_const])
    refine RetS.mk hx [0, 1, 2, 3] [] _ _ _ (by decide) (by (simp only [LV, sfu, smem, hov, LZ, seval, reduceCtorEq, forall_const])) (by ((try simp only [LV, sfu, smem, hov, LZ, seval, reduceCtorEq, forall_const, LY, seval, reduceCtorEq, implies_true]); first | done | exact True.intro | (intros; rfl))) (by ((try simp only [sfu, smem, hov, LY, seval, reduceCtorEq, implies_true]); first | done | exact True.intro | (intros; rfl))) ⟨rfl, rfl, rfl⟩
  rw [if_neg hz] at hq
  cases hbo : ev ap P k (.b body) qa.s L nl with
  | none => rw [hbo] at hq; cases hq
  | some qb =>
  rw [hbo] at hq
  simp only at hq
  have hBl := ihB k (by omega) body qa.s L qb hbo ga
  have gb := ev_gd ap P _ _ _ _ _ _ hbo ga
  simp only [irH, rnV, hov] at hBl
  refine call_mN [0, 1, 2, 3] [0, 1, 3] (hE) (by rfl) (by rfl) (by decide) (by rfl) (by rfl) (by ((try simp only [sfu, smem, svx, LY, seval, reduceCtorEq, implies_true]); first | done | exact True.intro | rfl)) (by ((try simp only [sfu, smem, svx, LY, seval, reduceCtorEq, implies_true]); first | done | exact True.intro | rfl)) ?_
  (simp (maxSteps := 4000000) only [ren_fuL, ren_memI, eq_false hz, sol_exV, siz_exV, agg_exV, sol_stL, siz_stL, agg_stL, LZ, seval, reduceCtorEq, forall_const])
  cases hbk : qb.back
  case' true =>
    rw [hbk] at hq hBl
    obtain rfl := Option.some.inj hq
    refine call_mN [0, 1, 2, 3] [0, 1, 3] (hBl) (by rfl) (by rfl) (by decide) (by rfl) (by rfl) (by ((try simp only [sfu, smem, svst, LY, seval, reduceCtorEq, implies_true]); first | done | exact True.intro | rfl)) (by ((try simp only [sfu, smem, svst, LY, seval, reduceCtorEq, implies_true]); first | done | exact True.intro | rfl)) ?_
    (simp (maxSteps := 4000000) only [ren_fuL, ren_memI, tup2, LZ, seval, reduceCtorEq, forall_const])
    refine RetS.mk hx [0, 1, 2, 3] [] _ _ _ (by decide) (by (simp only [LV, sfu, smem, LZ, seval, reduceCtorEq, forall_const])) (by ((try simp only [LV, sfu, smem, LZ, seval, reduceCtorEq, forall_const, LY, seval, reduceCtorEq, implies_true]); first | done | exact True.intro | (intros; rfl))) (by ((try simp only [sfu, smem, LY, seval, reduceCtorEq, implies_true]); first | done | exact True.intro | (intros; rfl))) ⟨rfl, rfl, rfl⟩
  rw [hbk] at hq hBl
  refine call_mN [0, 1, 2, 3] [0, 1, 3] (hBl) (by rfl) (by rfl) (by decide) (by rfl) (by rfl) (by ((try simp only [sfu, smem, svst, LY, seval, reduceCtorEq, implies_true]); first | done | exact True.intro | rfl)) (by ((try simp only [sfu, smem, svst, LY, seval, reduceCtorEq, implies_true]); first | done | exact True.intro | rfl)) ?_
  (simp (maxSteps := 4000000) only [ren_fuL, ren_memI, tup2, LZ, seval, reduceCtorEq, forall_const])
  refine ⟨(k, qb.s, qb.L), by simp only; omega, gb, by simpa using hq, by simp only; omega, ?_⟩
  refine Weak.fr [0, 1, 2, 3, 4] [] hx (by simp only [fr_length]) (by decide) ?_ ?_
  · simp only [LY, seval, reduceCtorEq, implies_true]
  · simp only [rnV, LY, seval, reduceCtorEq, implies_true, sfu, smem, sex, sstl]

theorem bl_call {M : Seat} (ok : OkIr M) (ap : Int → BitVec 64 → BitVec 64 → BitVec 64 → Option (BitVec 64)) (P : List Fu) (hP : P.length < 1000) (k nl0 : Nat) (L0 : Nat → BitVec 64)
    (ihB : ∀ nl, BlOK M P (fun l s L => ev ap P k (.b l) s L nl) nl) : CaOK M P (fun i as s => ev ap P (k + 1) (.c i as) s L0 nl0) := by
  intro i as s q n hq hg hn
  have hq0 := hq
  refine ⟨ev_gd ap P _ _ _ _ _ _ hq0 hg, runs_fr ok.k238 rfl fun x hx => ?_⟩
  simp only [ev] at hq
  cases hi : P[i]? with
  | none => rw [hi] at hq; cases hq
  | some f =>
  rw [hi] at hq
  simp only at hq
  by_cases hl : 0 ≤ f.locals ∧ f.locals < 1000
  case neg => rw [if_neg hl] at hq; cases hq
  rw [if_pos hl] at hq
  obtain ⟨m, hm⟩ := Int.eq_ofNat_of_zero_le hl.1
  rw [hm, Int.toNat_natCast] at hq
  cases hb : ev ap P k (.b f.body) s (fun j => if j < m then as.getD j 0#64 else 0#64) m with
  | none => rw [hb] at hq; cases hq
  | some qb =>
  rw [hb] at hq
  obtain rfl := Option.some.inj hq
  obtain ⟨hil, hif⟩ := List.getElem?_eq_some_iff.1 hi
  have hne : P ≠ [] := by rintro rfl; exact absurd hil (by simp)
  have hf : fuF P i = .st 3 (.fcons 0 (.int .i64 f.params) (.fcons 1 (.int .i64 (m : Nat)) (.fcons 2 (stL f.body) .fnil))) := by rw [fuF_get P i hil, hif, fuV, hm]
  have hB := ihB m f.body s _ qb hb hg
  have hm1 : (m : Int) < 1000 := by omega
  simp only [irH, rnV] at hB ⊢
  rw [fuL_lst P hne] at hB ⊢
  have hsl : ∀ H m z, Sim H m z (.lst 3 P.length (fuF P)) (.lst 3 P.length (fuF P)) := fun H m z => by rw [← fuL_lst P hne]; exact Sim_fuL H m z P
  have hrl : ∀ a, (V.lst 3 P.length (fuF P)).ren a = .lst 3 P.length (fuF P) := fun a => by rw [← fuL_lst P hne]; exact ren_fuL a P
  have hfe : ∀ j : Nat, (if 0 ≤ j ∧ j < min as.length m then W (as.getD j 0#64) else W 0#64) = W (if j < m then as.getD j 0#64 else 0#64) := fun j => by
    by_cases h1 : j < m
    · rw [if_pos h1]
      by_cases h2 : j < as.length
      · rw [if_pos ⟨Nat.zero_le _, by omega⟩]
      · rw [if_neg (by omega), List.getD_eq_getElem?_getD, List.getElem?_eq_none (by omega)]; rfl
    · rw [if_neg h1, if_neg (by omega)]
  refine ex_sound 2000 _ _ _ _ ?_; (simp (maxSteps := 4000000) only [f238, c238, hf, sol_stL, siz_stL, agg_stL, LZ, seval, reduceCtorEq, forall_const])
  repeat (refine And.intro (by first | omega | exact True.intro | rfl) ?_)
  simp only [hfe]
  refine call_mN [0, 1, 2, 148] [0, 1, 148] (hB) (by rfl) (by rfl) (by decide) (by rfl) (by rfl) (by ((try simp only [hsl, smem, svst, LY, seval, reduceCtorEq, implies_true]); first | done | exact True.intro | rfl)) (by ((try simp only [hsl, smem, svst, LY, seval, reduceCtorEq, implies_true]); first | done | exact True.intro | rfl)) ?_
  (simp (maxSteps := 4000000) only [hrl, ren_memI, tup2, LZ, seval, reduceCtorEq, forall_const])
  refine RetS.mk hx [0, 1, 2, 3] [] _ _ _ (by decide) (by (simp only [LV, hsl, smem, LZ, seval, reduceCtorEq, forall_const])) (by ((try simp only [LV, hsl, smem, LZ, seval, reduceCtorEq, forall_const, LY, seval, reduceCtorEq, implies_true]); first | done | exact True.intro | (intros; rfl))) (by ((try simp only [hsl, smem, LY, seval, reduceCtorEq, implies_true]); first | done | exact True.intro | (intros; rfl))) ⟨rfl, rfl, rfl⟩
end Mv
namespace Mv
open Go
set_option maxRecDepth 20000
set_option maxHeartbeats 4000000
set_option linter.unusedSimpArgs false

theorem ev_c_lt {ap : Int → BitVec 64 → BitVec 64 → BitVec 64 → Option (BitVec 64)} {P : List Fu} {k i : Nat} {as : List (BitVec 64)} {s : IrS} {L : Nat → BitVec 64} {nl : Nat} {q : Rs} (h : ev ap P k (.c i as) s L nl = some q) : i < P.length := by
  cases k with
  | zero => simp [ev] at h
  | succ k =>
    simp only [ev] at h
    split at h
    · cases h
    · rename_i f hf
      exact (List.getElem?_eq_some_iff.1 hf).1

theorem ir_all {M : Seat} (ok : OkIr M) (ap : Int → BitVec 64 → BitVec 64 → BitVec 64 → Option (BitVec 64)) (hap : ApOK M ap) (P : List Fu) (hP : P.length < 1000) : ∀ k : Nat,
    (∀ nl L, ExOK M P (fun x s => ev ap P k (.e x) s L nl) nl L) ∧ (∀ nl L, CaOK M P (fun i as s => ev ap P k (.c i as) s L nl)) ∧ (∀ nl, BlOK M P (fun l s L => ev ap P k (.b l) s L nl) nl) ∧
    (∀ nl, SsOK M P (fun x s L => ev ap P k (.s x) s L nl) nl) ∧ (∀ nl, LoOK M P (fun x s L => ev ap P k (.l x) s L nl) nl) := by
  intro k
  induction k using Nat.strongRecOn with
  | ind k ih =>
  have hlo : ∀ nl, LoOK M P (fun x s L => ev ap P k (.l x) s L nl) nl := fun nl => bl_loop ok ap P k nl (fun j hj L => (ih j hj).1 nl L) (fun j hj => (ih j hj).2.2.1 nl)
  cases k with
  | zero =>
    refine ⟨fun nl L x s q h => ?_, fun nl L i as s q n h => ?_, fun nl l s L q h => ?_, fun nl x s L q h => ?_, hlo⟩ <;> simp [ev] at h
  | succ k =>
    obtain ⟨h1, h2, h3, h4, h5⟩ := ih k (by omega)
    refine ⟨fun nl L => ex_expr ok ap hap P k nl L (h1 nl L) (h2 nl L) hP (fun i as s q h => ev_c_lt h), fun nl L => bl_call ok ap P hP k nl L h3, fun nl l s L q h hg => ?_, fun nl => bl_stmt ok ap P k nl (h1 nl) (h3 nl) (h5 nl), hlo⟩
    simp only [ev] at h
    split at h
    · cases h
    exact bl_block ok P _ (fun x s L q h => ev_gd ap P _ _ _ _ _ _ h) nl (h4 nl) l (by omega) s L q h hg

/-- The first call, of no arguments. -/
theorem runs_callNil {M : Seat} (ok : OkIr M) (ap : Int → BitVec 64 → BitVec 64 → BitVec 64 → Option (BitVec 64)) (hap : ApOK M ap) (P : List Fu) (hP : P.length < 1000) (k : Nat) (s : IrS) (q : Rs) (L0 : Nat → BitVec 64) (nl0 : Nat) (hq : ev ap P (k + 1) (.c 0 []) s L0 nl0 = some q) (hg : gd s) :
    Runs M 238 [.ptr 0 [], .int .i64 (0 : Nat), .nils] [(0, rnV P s), (1, memI s)] 3 (fun r H' k' => r = W q.v ∧ H' = [(0, rnV P q.s), (1, memI q.s)] ∧ k' = 3) := by
  refine runs_fr ok.k238 rfl fun x hx => ?_
  simp only [ev] at hq
  cases hi : P[0]? with
  | none => rw [hi] at hq; cases hq
  | some f =>
  rw [hi] at hq
  simp only at hq
  by_cases hl : 0 ≤ f.locals ∧ f.locals < 1000
  case neg => rw [if_neg hl] at hq; cases hq
  rw [if_pos hl] at hq
  obtain ⟨m, hm⟩ := Int.eq_ofNat_of_zero_le hl.1
  have hz : (fun j => if j < f.locals.toNat then ([] : List (BitVec 64)).getD j 0#64 else 0#64) = fun _ => 0#64 := by funext j; simp
  rw [hz, hm, Int.toNat_natCast] at hq
  cases hb : ev ap P k (.b f.body) s (fun _ => 0#64) m with
  | none => rw [hb] at hq; cases hq
  | some qb =>
  rw [hb] at hq
  obtain rfl := Option.some.inj hq
  obtain ⟨hil, hif⟩ := List.getElem?_eq_some_iff.1 hi
  have hne : P ≠ [] := by rintro rfl; exact absurd hil (by simp)
  have hf : fuF P 0 = .st 3 (.fcons 0 (.int .i64 f.params) (.fcons 1 (.int .i64 (m : Nat)) (.fcons 2 (stL f.body) .fnil))) := by rw [fuF_get P 0 hil, hif, fuV, hm]
  have hB := (ir_all ok ap hap P hP k).2.2.1 m f.body s _ qb hb hg
  have hm1 : (m : Int) < 1000 := by omega
  have hP0 : 0 < P.length := hil
  simp only [irH, rnV] at hB ⊢
  rw [fuL_lst P hne] at hB ⊢
  have hsl : ∀ H m z, Sim H m z (.lst 3 P.length (fuF P)) (.lst 3 P.length (fuF P)) := fun H m z => by rw [← fuL_lst P hne]; exact Sim_fuL H m z P
  have hrl : ∀ a, (V.lst 3 P.length (fuF P)).ren a = .lst 3 P.length (fuF P) := fun a => by rw [← fuL_lst P hne]; exact ren_fuL a P
  refine ex_sound 2000 _ _ _ _ ?_; (simp (maxSteps := 4000000) only [f238, c238, hf, sol_stL, siz_stL, agg_stL, LZ, seval, reduceCtorEq, forall_const])
  repeat (refine And.intro (by first | omega | exact True.intro | rfl) ?_)
  refine call_mN [0, 1, 2, 147] [0, 1, 147] (hB) (by rfl) (by rfl) (by decide) (by rfl) (by rfl) (by ((try simp only [hsl, smem, svst, LY, seval, reduceCtorEq, implies_true]); first | done | exact True.intro | rfl)) (by ((try simp only [hsl, smem, svst, LY, seval, reduceCtorEq, implies_true]); first | done | exact True.intro | rfl)) ?_
  (simp (maxSteps := 4000000) only [hrl, ren_memI, tup2, LZ, seval, reduceCtorEq, forall_const])
  refine RetS.mk hx [0, 1, 2] [] _ _ _ (by decide) (by (simp only [LV, hsl, smem, LZ, seval, reduceCtorEq, forall_const])) (by ((try simp only [LV, hsl, smem, LZ, seval, reduceCtorEq, forall_const, LY, seval, reduceCtorEq, implies_true]); first | done | exact True.intro | (intros; rfl))) (by ((try simp only [hsl, smem, LY, seval, reduceCtorEq, implies_true]); first | done | exact True.intro | (intros; rfl))) ⟨rfl, rfl, rfl⟩
end Mv
