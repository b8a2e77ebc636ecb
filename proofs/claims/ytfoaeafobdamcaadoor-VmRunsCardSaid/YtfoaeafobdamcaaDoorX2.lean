/- Layer 1's operations, all of them: each comes back with a word. -/
import Derived.Test.YtfoaeafobdamcaaDoorW1
import Derived.Test.YtfoaeafobdamcaaDoorX1
set_option linter.unusedSimpArgs false
set_option linter.unusedVariables false
namespace Mv
open Go
set_option maxRecDepth 20000
set_option maxHeartbeats 4000000
set_option linter.unusedSimpArgs false

theorem mul_lt_c {A B c : BitVec 64} (h1 : A < c) : mhi A B < c := by
  rw [BitVec.lt_def] at *
  rw [mhi_nat]
  have hB := B.isLt
  apply (Nat.div_lt_iff_lt_mul (by decide)).2
  exact Nat.lt_of_le_of_lt (Nat.mul_le_mul_left _ (Nat.le_of_lt hB)) (Nat.mul_lt_mul_of_pos_right h1 (by decide))
theorem cr_lt_c {A B c : BitVec 64} (h1 : A < c) (h2 : B < c) : crW A B < c := by
  rw [BitVec.lt_def] at *
  unfold crW
  split
  · show 0 < _; omega
  · show 1 < _; omega
theorem rem_lt (a c : BitVec 64) (hc : ¬ c = 0#64) : HMod.hMod a c < c := by
  rw [BitVec.lt_def, BitVec.toNat_umod]
  refine Nat.mod_lt _ (Nat.pos_of_ne_zero fun h => hc (BitVec.eq_of_toNat_eq (by simpa using h)))

theorem vadd64_Z (a b : BitVec 64) (H : Hp) : vadd64 (W a) (W b) (W 0#64) H = ⟨True, .tup (.fcons 0 (W (a + b)) (.fcons 1 (W (crW a b)) .fnil)), H⟩ := vadd64_W a b H

theorem ex_modulo8 {M : Seat} (ok : OkP M) (a b c : BitVec 64) : ∃ w, Runs M 322 [.int .i64 8, W a, W b, W c] [] 0 (fun r H' k' => r = W w ∧ H' = [] ∧ k' = 0) := by
  by_cases hc : c = 0#64
  · subst hc
    refine ⟨0#64, runs_fr ok.k322 rfl fun x hx => ?_⟩
    refine ex_sound 2000 _ _ _ _ ?_; (simp (maxSteps := 4000000) only [f322, c322, LZ, seval, reduceCtorEq, forall_const])
    exact RetS.mkZ hx [] ⟨rfl, rfl, rfl⟩
  · have hcn : (c ≠ 0) = True := eq_true hc
    have hA' := rem_lt a c hc
    have hB' := rem_lt b c hc
    obtain ⟨A, hA⟩ : ∃ A, HMod.hMod a c = A := ⟨_, rfl⟩
    obtain ⟨B, hB⟩ : ∃ B, HMod.hMod b c = B := ⟨_, rfl⟩
    rw [hA] at hA'
    rw [hB] at hB'
    obtain ⟨q, r, hr⟩ := ex_Div64 ok (crW A B) (A + B) c (cr_lt_c hA' hB')
    refine ⟨r, runs_fr ok.k322 rfl fun x hx => ?_⟩
    obtain ⟨hi, hhi⟩ : ∃ hi, crW A B = hi := ⟨_, rfl⟩
    obtain ⟨lo, hlo⟩ : ∃ lo, A + B = lo := ⟨_, rfl⟩
    rw [hhi, hlo] at hr
    refine ex_sound 2000 _ _ _ _ ?_; (simp (maxSteps := 4000000) only [f322, c322, hc, hcn, hA, hB, LZ, seval, reduceCtorEq, forall_const])
    repeat (refine And.intro (by first | omega | exact True.intro | rfl) ?_)
    refine call_pZ (runs_Mul64 ok A B) ?_
    (simp (maxSteps := 4000000) only [tup2, hhi, hlo, vadd64_Z, LZ, seval, reduceCtorEq, forall_const])
    repeat (refine And.intro (by first | omega | exact True.intro | rfl) ?_)
    refine call_pZ (hr) ?_
    (simp (maxSteps := 4000000) only [tup2, LZ, seval, reduceCtorEq, forall_const])
    exact RetS.mkZ hx [] ⟨rfl, rfl, rfl⟩
theorem ex_modulo9 {M : Seat} (ok : OkP M) (a b c : BitVec 64) : ∃ w, Runs M 322 [.int .i64 9, W a, W b, W c] [] 0 (fun r H' k' => r = W w ∧ H' = [] ∧ k' = 0) := by
  by_cases hc : c = 0#64
  · subst hc
    refine ⟨0#64, runs_fr ok.k322 rfl fun x hx => ?_⟩
    refine ex_sound 2000 _ _ _ _ ?_; (simp (maxSteps := 4000000) only [f322, c322, LZ, seval, reduceCtorEq, forall_const])
    exact RetS.mkZ hx [] ⟨rfl, rfl, rfl⟩
  · have hcn : (c ≠ 0) = True := eq_true hc
    have hA' := rem_lt a c hc
    have hB' := rem_lt b c hc
    obtain ⟨A, hA⟩ : ∃ A, HMod.hMod a c = A := ⟨_, rfl⟩
    obtain ⟨B, hB⟩ : ∃ B, HMod.hMod b c = B := ⟨_, rfl⟩
    rw [hA] at hA'
    rw [hB] at hB'
    obtain ⟨q, r, hr⟩ := ex_Div64 ok (mhi A B) (A * B) c (mul_lt_c hA')
    refine ⟨r, runs_fr ok.k322 rfl fun x hx => ?_⟩
    obtain ⟨hi, hhi⟩ : ∃ hi, mhi A B = hi := ⟨_, rfl⟩
    obtain ⟨lo, hlo⟩ : ∃ lo, A * B = lo := ⟨_, rfl⟩
    rw [hhi, hlo] at hr
    refine ex_sound 2000 _ _ _ _ ?_; (simp (maxSteps := 4000000) only [f322, c322, hc, hcn, hA, hB, LZ, seval, reduceCtorEq, forall_const])
    repeat (refine And.intro (by first | omega | exact True.intro | rfl) ?_)
    refine call_pZ (runs_Mul64 ok A B) ?_
    (simp (maxSteps := 4000000) only [tup2, hhi, hlo, vadd64_Z, LZ, seval, reduceCtorEq, forall_const])
    repeat (refine And.intro (by first | omega | exact True.intro | rfl) ?_)
    refine call_pZ (hr) ?_
    (simp (maxSteps := 4000000) only [tup2, LZ, seval, reduceCtorEq, forall_const])
    exact RetS.mkZ hx [] ⟨rfl, rfl, rfl⟩

theorem ex_shifted11 {M : Seat} (ok : OkP M) (a b : BitVec 64) : ∃ w, Runs M 324 [.int .i64 11, W a, W b] [] 0 (fun r H' k' => r = W w ∧ H' = [] ∧ k' = 0) := by
  rcases Classical.propComplete (7#64 ≤ a) with h | h
  · apply Exists.intro
    refine runs_fr ok.k324 rfl fun x hx => ?_
    refine ex_sound 2000 _ _ _ _ ?_; (simp (maxSteps := 4000000) only [f324, c324, h, LZ, seval, reduceCtorEq, forall_const])
    repeat (refine And.intro (by first | omega | exact True.intro | rfl) ?_)
    exact RetS.mkZ hx [] ⟨rfl, rfl, rfl⟩
  · apply Exists.intro
    refine runs_fr ok.k324 rfl fun x hx => ?_
    refine ex_sound 2000 _ _ _ _ ?_; (simp (maxSteps := 4000000) only [f324, c324, h, LZ, seval, reduceCtorEq, forall_const])
    repeat (refine And.intro (by first | omega | exact True.intro | rfl) ?_)
    exact RetS.mkZ hx [] ⟨rfl, rfl, rfl⟩
theorem ex_shifted12 {M : Seat} (ok : OkP M) (a b : BitVec 64) : ∃ w, Runs M 324 [.int .i64 12, W a, W b] [] 0 (fun r H' k' => r = W w ∧ H' = [] ∧ k' = 0) := by
  rcases Classical.propComplete (7#64 < a) with h | h
  · apply Exists.intro
    refine runs_fr ok.k324 rfl fun x hx => ?_
    refine ex_sound 2000 _ _ _ _ ?_; (simp (maxSteps := 4000000) only [f324, c324, h, LZ, seval, reduceCtorEq, forall_const])
    repeat (refine And.intro (by first | omega | exact True.intro | rfl) ?_)
    exact RetS.mkZ hx [] ⟨rfl, rfl, rfl⟩
  · apply Exists.intro
    refine runs_fr ok.k324 rfl fun x hx => ?_
    refine ex_sound 2000 _ _ _ _ ?_; (simp (maxSteps := 4000000) only [f324, c324, h, LZ, seval, reduceCtorEq, forall_const])
    repeat (refine And.intro (by first | omega | exact True.intro | rfl) ?_)
    exact RetS.mkZ hx [] ⟨rfl, rfl, rfl⟩
theorem ex_shifted13 {M : Seat} (ok : OkP M) (a b : BitVec 64) : ∃ w, Runs M 324 [.int .i64 13, W a, W b] [] 0 (fun r H' k' => r = W w ∧ H' = [] ∧ k' = 0) := by
  apply Exists.intro
  refine runs_fr ok.k324 rfl fun x hx => ?_
  refine ex_sound 2000 _ _ _ _ ?_; (simp (maxSteps := 4000000) only [f324, c324, LZ, seval, reduceCtorEq, forall_const])
  repeat (refine And.intro (by first | omega | exact True.intro | rfl) ?_)
  exact RetS.mkZ hx [] ⟨rfl, rfl, rfl⟩
theorem ex_shifted14 {M : Seat} (ok : OkP M) (a b : BitVec 64) : ∃ w, Runs M 324 [.int .i64 14, W a, W b] [] 0 (fun r H' k' => r = W w ∧ H' = [] ∧ k' = 0) := by
  apply Exists.intro
  refine runs_fr ok.k324 rfl fun x hx => ?_
  refine ex_sound 2000 _ _ _ _ ?_; (simp (maxSteps := 4000000) only [f324, c324, LZ, seval, reduceCtorEq, forall_const])
  repeat (refine And.intro (by first | omega | exact True.intro | rfl) ?_)
  exact RetS.mkZ hx [] ⟨rfl, rfl, rfl⟩
theorem ex_shifted15 {M : Seat} (ok : OkP M) (a b : BitVec 64) : ∃ w, Runs M 324 [.int .i64 15, W a, W b] [] 0 (fun r H' k' => r = W w ∧ H' = [] ∧ k' = 0) := by
  apply Exists.intro
  refine runs_fr ok.k324 rfl fun x hx => ?_
  refine ex_sound 2000 _ _ _ _ ?_; (simp (maxSteps := 4000000) only [f324, c324, LZ, seval, reduceCtorEq, forall_const])
  repeat (refine And.intro (by first | omega | exact True.intro | rfl) ?_)
  exact RetS.mkZ hx [] ⟨rfl, rfl, rfl⟩

theorem ex_Apply {M : Seat} (ok : OkP M) (op : Nat) (h1 : 1 ≤ op) (h2 : op ≤ 25) (a b c : BitVec 64) : ∃ w, Runs M 215 [.int .i64 op, W a, W b, W c] [] 0 (fun r H' k' => r = tup2 (W w) .nili ∧ H' = [] ∧ k' = 0) := by
  have c1 : ((1 : Nat) : Int) = 1 := rfl
  have hd : ∀ op : Nat, op = 4 ∨ op = 5 ∨ op = 6 ∨ op = 7 → ∃ w, Runs M 321 [.int .i64 op, W a, W b] [] 0 (fun r H' k' => r = W w ∧ H' = [] ∧ k' = 0) := fun op h => ⟨_, runs_divided ok op h a b⟩
  obtain ⟨w4, h4⟩ := hd 4 (by decide)
  obtain ⟨w5, h5⟩ := hd 5 (by decide)
  obtain ⟨w6, h6⟩ := hd 6 (by decide)
  obtain ⟨w7, h7⟩ := hd 7 (by decide)
  obtain ⟨w8, h8⟩ := ex_modulo8 ok a b c
  obtain ⟨w9, h9⟩ := ex_modulo9 ok a b c
  have h10 := runs_power ok a b
  obtain ⟨w11, h11⟩ := ex_shifted11 ok a b
  obtain ⟨w12, h12⟩ := ex_shifted12 ok a b
  obtain ⟨w13, h13⟩ := ex_shifted13 ok a b
  obtain ⟨w14, h14⟩ := ex_shifted14 ok a b
  obtain ⟨w15, h15⟩ := ex_shifted15 ok a b
  have hf := fun t => runs_flag ok t
  have hop : op = 1 ∨ op = 2 ∨ op = 3 ∨ op = 22 ∨ op = 23 ∨ op = 24 ∨ op = 25 ∨ op = 16 ∨ op = 17 ∨ op = 18 ∨ op = 19 ∨ op = 20 ∨ op = 21 ∨ op = 4 ∨ op = 5 ∨ op = 6 ∨ op = 7 ∨ op = 8 ∨ op = 9 ∨ op = 10 ∨ op = 11 ∨ op = 12 ∨ op = 13 ∨ op = 14 ∨ op = 15 := by omega
  rcases hop with rfl | rfl | rfl | rfl | rfl | rfl | rfl | rfl | rfl | rfl | rfl | rfl | rfl | rfl | rfl | rfl | rfl | rfl | rfl | rfl | rfl | rfl | rfl | rfl | rfl
  iterate 7
    focus
      apply Exists.intro
      refine runs_fr ok.k215 rfl fun x hx => ?_
      refine ex_sound 2000 _ _ _ _ ?_; (simp (maxSteps := 4000000) only [f215, c215, c1, Int.cast_ofNat_Int, LZ, seval, reduceCtorEq, forall_const])
      exact RetS.mkZ hx [] ⟨rfl, rfl, rfl⟩
  iterate 6
    focus
      apply Exists.intro
      refine runs_fr ok.k215 rfl fun x hx => ?_
      refine ex_sound 2000 _ _ _ _ ?_; (simp (maxSteps := 4000000) only [f215, c215, Int.cast_ofNat_Int, LZ, seval, reduceCtorEq, forall_const])
      refine call_pZ (hf _) ?_
      (simp (maxSteps := 4000000) only [LZ, seval, reduceCtorEq, forall_const])
      exact RetS.mkZ hx [] ⟨rfl, rfl, rfl⟩
  all_goals
    apply Exists.intro
    refine runs_fr ok.k215 rfl fun x hx => ?_
    refine ex_sound 2000 _ _ _ _ ?_; (simp (maxSteps := 4000000) only [f215, c215, Int.cast_ofNat_Int, LZ, seval, reduceCtorEq, forall_const])
    first
      | (refine call_pZ (h4) ?_)
      | (refine call_pZ (h5) ?_)
      | (refine call_pZ (h6) ?_)
      | (refine call_pZ (h7) ?_)
      | (refine call_pZ (h8) ?_)
      | (refine call_pZ (h9) ?_)
      | (refine call_pZ (h10) ?_)
      | (refine call_pZ (h11) ?_)
      | (refine call_pZ (h12) ?_)
      | (refine call_pZ (h13) ?_)
      | (refine call_pZ (h14) ?_)
      | (refine call_pZ (h15) ?_)
    (simp (maxSteps := 4000000) only [LZ, seval, reduceCtorEq, forall_const])
    exact RetS.mkZ hx [] ⟨rfl, rfl, rfl⟩
end Mv
