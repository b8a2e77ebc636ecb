/- Layer 1's operations, all of them: each comes back with a word. -/
import Derived.Test.YtncipgmjhaiagaaDoorW1
import Derived.Test.YtncipgmjhaiagaaDoorX1
set_option linter.unusedSimpArgs false
set_option linter.unusedVariables false
namespace Mv
open Go
set_option maxRecDepth 20000
set_option maxHeartbeats 4000000
set_option linter.unusedSimpArgs false

theorem mul_lt_c {A B c : BitVec 64} (h1 : A < c) : mhi A B < c := by
  rw [BitVec.lt_def] at *
  rw [mhi_nat]
  have hB := B.isLt
  apply (Nat.div_lt_iff_lt_mul (by decide)).2
  exact Nat.lt_of_le_of_lt (Nat.mul_le_mul_left _ (Nat.le_of_lt hB)) (Nat.mul_lt_mul_of_pos_right h1 (by decide))
theorem cr_lt_c {A B c : BitVec 64} (h1 : A < c) (h2 : B < c) : crW A B < c := by
  rw [BitVec.lt_def] at *
  unfold crW
  split
  · show 0 < _; omega
  · show 1 < _; omega
theorem rem_lt (a c : BitVec 64) (hc : ¬ c = 0#64) : HMod.hMod a c < c := by
  rw [BitVec.lt_def, BitVec.toNat_umod]
  refine Nat.mod_lt _ (Nat.pos_of_ne_zero fun h => hc (BitVec.eq_of_toNat_eq (by simpa using h)))

theorem vadd64_Z (a b : BitVec 64) (H : Hp) : vadd64 (W a) (W b) (W 0#64) H = ⟨True, .tup (.fcons 0 (W (a + b)) (.fcons 1 (W (crW a b)) .fnil)), H⟩ := vadd64_W a b H

theorem crW_nat (A B : BitVec 64) : (crW A B).toNat * 18446744073709551616 + (A + B).toNat = A.toNat + B.toNat := by
  have h1 := A.isLt
  have h2 := B.isLt
  rw [BitVec.toNat_add]
  unfold crW
  split
  · show 0 * 18446744073709551616 + _ = _
    omega
  · show 1 * 18446744073709551616 + _ = _
    omega
theorem add_nat (a b c : BitVec 64) : ((crW (HMod.hMod a c) (HMod.hMod b c)).toNat * 18446744073709551616 + (HMod.hMod a c + HMod.hMod b c).toNat) % c.toNat = (a.toNat + b.toNat) % c.toNat := by
  rw [crW_nat, BitVec.toNat_umod, BitVec.toNat_umod, ← Nat.add_mod]
theorem mul_nat (a b c : BitVec 64) : ((mhi (HMod.hMod a c) (HMod.hMod b c)).toNat * 18446744073709551616 + (HMod.hMod a c * HMod.hMod b c).toNat) % c.toNat = (a.toNat * b.toNat) % c.toNat := by
  have e : (mhi (HMod.hMod a c) (HMod.hMod b c)).toNat * 18446744073709551616 + (HMod.hMod a c * HMod.hMod b c).toNat = (HMod.hMod a c).toNat * (HMod.hMod b c).toNat := by
    rw [mhi_nat, BitVec.toNat_mul]
    have := Nat.div_add_mod ((HMod.hMod a c).toNat * (HMod.hMod b c).toNat) 18446744073709551616
    have e2 : (2 : Nat) ^ 64 = 18446744073709551616 := by decide
    rw [e2]
    omega
  rw [e, BitVec.toNat_umod, BitVec.toNat_umod, ← Nat.mul_mod]

theorem ex_modulo8 {M : Seat} (ok : OkP M) (a b c : BitVec 64) : ∃ w, (c ≠ 0#64 → w.toNat = (a.toNat + b.toNat) % c.toNat) ∧ (c = 0#64 → w = 0#64) ∧ Runs M 322 [.int .i64 8, W a, W b, W c] [] 0 (fun r H' k' => r = W w ∧ H' = [] ∧ k' = 0) := by
  by_cases hc : c = 0#64
  · subst hc
    refine ⟨0#64, fun h => absurd rfl h, fun _ => rfl, runs_fr ok.k322 rfl fun x hx => ?_⟩
    refine ex_sound 2000 _ _ _ _ ?_; (simp (maxSteps := 4000000) only [f322, c322, LZ, seval, reduceCtorEq, forall_const])
    exact RetS.mkZ hx [] ⟨rfl, rfl, rfl⟩
  · have hcn : (c ≠ 0) = True := eq_true hc
    have hA' := rem_lt a c hc
    have hB' := rem_lt b c hc
    obtain ⟨A, hA⟩ : ∃ A, HMod.hMod a c = A := ⟨_, rfl⟩
    obtain ⟨B, hB⟩ : ∃ B, HMod.hMod b c = B := ⟨_, rfl⟩
    rw [hA] at hA'
    rw [hB] at hB'
    obtain ⟨q, r, hrn, hr⟩ := ex_Div64 ok (crW A B) (A + B) c (cr_lt_c hA' hB')
    refine ⟨r, fun _ => by rw [hrn, ← hA, ← hB]; exact add_nat a b c, fun h => absurd h hc, runs_fr ok.k322 rfl fun x hx => ?_⟩
    obtain ⟨hi, hhi⟩ : ∃ hi, crW A B = hi := ⟨_, rfl⟩
    obtain ⟨lo, hlo⟩ : ∃ lo, A + B = lo := ⟨_, rfl⟩
    rw [hhi, hlo] at hr
    refine ex_sound 2000 _ _ _ _ ?_; (simp (maxSteps := 4000000) only [f322, c322, hc, hcn, hA, hB, LZ, seval, reduceCtorEq, forall_const])
    repeat (refine And.intro (by first | omega | exact True.intro | rfl) ?_)
    refine call_pZ (runs_Mul64 ok A B) ?_
    (simp (maxSteps := 4000000) only [tup2, hhi, hlo, vadd64_Z, LZ, seval, reduceCtorEq, forall_const])
    repeat (refine And.intro (by first | omega | exact True.intro | rfl) ?_)
    refine call_pZ (hr) ?_
    (simp (maxSteps := 4000000) only [tup2, LZ, seval, reduceCtorEq, forall_const])
    exact RetS.mkZ hx [] ⟨rfl, rfl, rfl⟩
theorem ex_modulo9 {M : Seat} (ok : OkP M) (a b c : BitVec 64) : ∃ w, (c ≠ 0#64 → w.toNat = (a.toNat * b.toNat) % c.toNat) ∧ (c = 0#64 → w = 0#64) ∧ Runs M 322 [.int .i64 9, W a, W b, W c] [] 0 (fun r H' k' => r = W w ∧ H' = [] ∧ k' = 0) := by
  by_cases hc : c = 0#64
  · subst hc
    refine ⟨0#64, fun h => absurd rfl h, fun _ => rfl, runs_fr ok.k322 rfl fun x hx => ?_⟩
    refine ex_sound 2000 _ _ _ _ ?_; (simp (maxSteps := 4000000) only [f322, c322, LZ, seval, reduceCtorEq, forall_const])
    exact RetS.mkZ hx [] ⟨rfl, rfl, rfl⟩
  · have hcn : (c ≠ 0) = True := eq_true hc
    have hA' := rem_lt a c hc
    have hB' := rem_lt b c hc
    obtain ⟨A, hA⟩ : ∃ A, HMod.hMod a c = A := ⟨_, rfl⟩
    obtain ⟨B, hB⟩ : ∃ B, HMod.hMod b c = B := ⟨_, rfl⟩
    rw [hA] at hA'
    rw [hB] at hB'
    obtain ⟨q, r, hrn, hr⟩ := ex_Div64 ok (mhi A B) (A * B) c (mul_lt_c hA')
    refine ⟨r, fun _ => by rw [hrn, ← hA, ← hB]; exact mul_nat a b c, fun h => absurd h hc, runs_fr ok.k322 rfl fun x hx => ?_⟩
    obtain ⟨hi, hhi⟩ : ∃ hi, mhi A B = hi := ⟨_, rfl⟩
    obtain ⟨lo, hlo⟩ : ∃ lo, A * B = lo := ⟨_, rfl⟩
    rw [hhi, hlo] at hr
    refine ex_sound 2000 _ _ _ _ ?_; (simp (maxSteps := 4000000) only [f322, c322, hc, hcn, hA, hB, LZ, seval, reduceCtorEq, forall_const])
    repeat (refine And.intro (by first | omega | exact True.intro | rfl) ?_)
    refine call_pZ (runs_Mul64 ok A B) ?_
    (simp (maxSteps := 4000000) only [tup2, hhi, hlo, vadd64_Z, LZ, seval, reduceCtorEq, forall_const])
    repeat (refine And.intro (by first | omega | exact True.intro | rfl) ?_)
    refine call_pZ (hr) ?_
    (simp (maxSteps := 4000000) only [tup2, LZ, seval, reduceCtorEq, forall_const])
    exact RetS.mkZ hx [] ⟨rfl, rfl, rfl⟩

theorem sar_eq (b : BitVec 64) (n : Nat) : BitVec.ofInt 64 (b.toInt.fdiv (2 ^ min n 64)) = b.sshiftRight n := by
  rw [Int.fdiv_eq_ediv_of_nonneg _ (Int.pow_nonneg (by decide)), BitVec.sshiftRight, Int.shiftRight_eq_div_pow]
  congr 1
  have h1 := BitVec.toInt_lt (x := b)
  have h2 := BitVec.le_toInt b
  by_cases h : n ≤ 64
  · rw [Nat.min_eq_left h, pow2_n]
  · rw [Nat.min_eq_right (by omega)]
    have hp : (18446744073709551616 : Int) ≤ ((2 ^ n : Nat) : Int) := by
      have := Nat.pow_le_pow_right (n := 2) (by decide) (show 64 ≤ n by omega)
      have e : (2 : Nat) ^ 64 = 18446744073709551616 := by decide
      omega
    have e64 : (2 : Int) ^ 64 = 18446744073709551616 := by decide
    rw [e64]
    generalize ((2 ^ n : Nat) : Int) = m at hp
    have e63 : (2 : Int) ^ (64 - 1) = 9223372036854775808 := by decide
    rw [e63] at h1 h2
    by_cases hb : 0 ≤ b.toInt
    · rw [Int.ediv_eq_zero_of_lt hb (by omega), Int.ediv_eq_zero_of_lt hb (by omega)]
    · have k1 : b.toInt / 18446744073709551616 = -1 := by omega
      have k2 : b.toInt / m = -1 := by
        have l1 : -1 ≤ b.toInt / m := (Int.le_ediv_iff_mul_le (by omega)).2 (by omega)
        have l2 : b.toInt / m < 0 := Int.ediv_neg_of_neg_of_pos (by omega) (by omega)
        omega
      rw [k1, k2]

/-- Shifted, cut or drawn out. -/
def shW (op : Nat) (a b : BitVec 64) : BitVec 64 :=
  if op = 11 then (if 7#64 ≤ a then b else (b <<< (56#64 - 8#64 * a)).sshiftRight (56#64 - 8#64 * a).toNat)
  else if op = 12 then (if 7#64 < a then 0#64 else (b >>> (56#64 - 8#64 * a)) &&& 255#64)
  else if op = 13 then b <<< a else if op = 14 then b >>> a else b.sshiftRight a.toNat

theorem runs_shifted11 {M : Seat} (ok : OkP M) (a b : BitVec 64) : Runs M 324 [.int .i64 11, W a, W b] [] 0 (fun r H' k' => r = W (shW 11 a b) ∧ H' = [] ∧ k' = 0) := by
  generalize hF : shW 11 a b = F
  simp only [shW, Nat.reduceEqDiff, if_true, if_false] at hF
  rcases Classical.propComplete (7#64 ≤ a) with h | h
  · refine runs_fr ok.k324 rfl fun x hx => ?_
    simp only [h, if_true] at hF
    refine ex_sound 2000 _ _ _ _ ?_; (simp (maxSteps := 4000000) only [f324, c324, h, sar_eq, LZ, seval, reduceCtorEq, forall_const])
    repeat (refine And.intro (by first | omega | exact True.intro | rfl) ?_)
    subst hF
    exact RetS.mkZ hx [] ⟨rfl, rfl, rfl⟩
  · refine runs_fr ok.k324 rfl fun x hx => ?_
    simp only [h, if_false] at hF
    refine ex_sound 2000 _ _ _ _ ?_; (simp (maxSteps := 4000000) only [f324, c324, h, sar_eq, LZ, seval, reduceCtorEq, forall_const])
    repeat (refine And.intro (by first | omega | exact True.intro | rfl) ?_)
    subst hF
    exact RetS.mkZ hx [] ⟨rfl, rfl, rfl⟩
theorem runs_shifted12 {M : Seat} (ok : OkP M) (a b : BitVec 64) : Runs M 324 [.int .i64 12, W a, W b] [] 0 (fun r H' k' => r = W (shW 12 a b) ∧ H' = [] ∧ k' = 0) := by
  generalize hF : shW 12 a b = F
  simp only [shW, Nat.reduceEqDiff, if_true, if_false] at hF
  rcases Classical.propComplete (7#64 < a) with h | h
  · refine runs_fr ok.k324 rfl fun x hx => ?_
    simp only [h, if_true] at hF
    refine ex_sound 2000 _ _ _ _ ?_; (simp (maxSteps := 4000000) only [f324, c324, h, sar_eq, LZ, seval, reduceCtorEq, forall_const])
    repeat (refine And.intro (by first | omega | exact True.intro | rfl) ?_)
    subst hF
    exact RetS.mkZ hx [] ⟨rfl, rfl, rfl⟩
  · refine runs_fr ok.k324 rfl fun x hx => ?_
    simp only [h, if_false] at hF
    refine ex_sound 2000 _ _ _ _ ?_; (simp (maxSteps := 4000000) only [f324, c324, h, sar_eq, LZ, seval, reduceCtorEq, forall_const])
    repeat (refine And.intro (by first | omega | exact True.intro | rfl) ?_)
    subst hF
    exact RetS.mkZ hx [] ⟨rfl, rfl, rfl⟩
theorem runs_shifted13 {M : Seat} (ok : OkP M) (a b : BitVec 64) : Runs M 324 [.int .i64 13, W a, W b] [] 0 (fun r H' k' => r = W (shW 13 a b) ∧ H' = [] ∧ k' = 0) := by
  generalize hF : shW 13 a b = F
  simp only [shW, Nat.reduceEqDiff, if_true, if_false] at hF
  refine runs_fr ok.k324 rfl fun x hx => ?_
  refine ex_sound 2000 _ _ _ _ ?_; (simp (maxSteps := 4000000) only [f324, c324, sar_eq, LZ, seval, reduceCtorEq, forall_const])
  repeat (refine And.intro (by first | omega | exact True.intro | rfl) ?_)
  subst hF
  exact RetS.mkZ hx [] ⟨rfl, rfl, rfl⟩
theorem runs_shifted14 {M : Seat} (ok : OkP M) (a b : BitVec 64) : Runs M 324 [.int .i64 14, W a, W b] [] 0 (fun r H' k' => r = W (shW 14 a b) ∧ H' = [] ∧ k' = 0) := by
  generalize hF : shW 14 a b = F
  simp only [shW, Nat.reduceEqDiff, if_true, if_false] at hF
  refine runs_fr ok.k324 rfl fun x hx => ?_
  refine ex_sound 2000 _ _ _ _ ?_; (simp (maxSteps := 4000000) only [f324, c324, sar_eq, LZ, seval, reduceCtorEq, forall_const])
  repeat (refine And.intro (by first | omega | exact True.intro | rfl) ?_)
  subst hF
  exact RetS.mkZ hx [] ⟨rfl, rfl, rfl⟩
theorem runs_shifted15 {M : Seat} (ok : OkP M) (a b : BitVec 64) : Runs M 324 [.int .i64 15, W a, W b] [] 0 (fun r H' k' => r = W (shW 15 a b) ∧ H' = [] ∧ k' = 0) := by
  generalize hF : shW 15 a b = F
  simp only [shW, Nat.reduceEqDiff, if_true, if_false] at hF
  refine runs_fr ok.k324 rfl fun x hx => ?_
  refine ex_sound 2000 _ _ _ _ ?_; (simp (maxSteps := 4000000) only [f324, c324, sar_eq, LZ, seval, reduceCtorEq, forall_const])
  repeat (refine And.intro (by first | omega | exact True.intro | rfl) ?_)
  subst hF
  exact RetS.mkZ hx [] ⟨rfl, rfl, rfl⟩

/-- A word of layer 1. -/
def apW (op : Nat) (a b c : BitVec 64) : BitVec 64 :=
  if op = 1 then a + b else if op = 2 then a - b else if op = 3 then a * b
  else if op = 4 ∨ op = 5 ∨ op = 6 ∨ op = 7 then divd op a b
  else if op = 8 then (if c = 0#64 then 0#64 else BitVec.ofNat 64 ((a.toNat + b.toNat) % c.toNat))
  else if op = 9 then (if c = 0#64 then 0#64 else BitVec.ofNat 64 ((a.toNat * b.toNat) % c.toNat))
  else if op = 10 then pwr 64 a b 1#64
  else if op = 11 ∨ op = 12 ∨ op = 13 ∨ op = 14 ∨ op = 15 then shW op a b
  else if op = 16 then flg (decide (a < b)) else if op = 17 then flg (decide (b < a))
  else if op = 18 then flg (decide (a.toInt < b.toInt)) else if op = 19 then flg (decide (b.toInt < a.toInt))
  else if op = 20 then flg (decide (a = b)) else if op = 21 then flg (decide (a = 0#64))
  else if op = 22 then a &&& b else if op = 23 then a ||| b else if op = 24 then a ^^^ b else a ^^^ 18446744073709551615#64
theorem w_mod {w : BitVec 64} {n : Nat} {c : BitVec 64} (h1 : c ≠ 0#64 → w.toNat = n % c.toNat) (h2 : c = 0#64 → w = 0#64) : w = (if c = 0#64 then 0#64 else BitVec.ofNat 64 (n % c.toNat)) := by
  split
  · rename_i h; exact h2 h
  · rename_i h
    apply BitVec.eq_of_toNat_eq
    have hc := c.isLt
    have h0 : 0 < c.toNat := Nat.pos_of_ne_zero fun e => h (BitVec.eq_of_toNat_eq (by simpa using e))
    rw [h1 h, BitVec.toNat_ofNat]
    exact (Nat.mod_eq_of_lt (Nat.lt_trans (Nat.mod_lt _ h0) hc)).symm

theorem runs_Apply {M : Seat} (ok : OkP M) (op : Nat) (h1 : 1 ≤ op) (h2 : op ≤ 25) (a b c : BitVec 64) : Runs M 215 [.int .i64 op, W a, W b, W c] [] 0 (fun r H' k' => r = tup2 (W (apW op a b c)) .nili ∧ H' = [] ∧ k' = 0) := by
  have c1 : ((1 : Nat) : Int) = 1 := rfl
  have hd := fun (op : Nat) h => runs_divided ok op h a b
  have h4 := hd 4 (by decide)
  have h5 := hd 5 (by decide)
  have h6 := hd 6 (by decide)
  have h7 := hd 7 (by decide)
  obtain ⟨w8, p8, z8, h8⟩ := ex_modulo8 ok a b c
  obtain ⟨w9, p9, z9, h9⟩ := ex_modulo9 ok a b c
  rw [w_mod p8 z8] at h8
  rw [w_mod p9 z9] at h9
  have h10 := runs_power ok a b
  have h11 := runs_shifted11 ok a b
  have h12 := runs_shifted12 ok a b
  have h13 := runs_shifted13 ok a b
  have h14 := runs_shifted14 ok a b
  have h15 := runs_shifted15 ok a b
  have hf := fun t => runs_flag ok t
  have hop : op = 1 ∨ op = 2 ∨ op = 3 ∨ op = 22 ∨ op = 23 ∨ op = 24 ∨ op = 25 ∨ op = 16 ∨ op = 17 ∨ op = 18 ∨ op = 19 ∨ op = 20 ∨ op = 21 ∨ op = 4 ∨ op = 5 ∨ op = 6 ∨ op = 7 ∨ op = 8 ∨ op = 9 ∨ op = 10 ∨ op = 11 ∨ op = 12 ∨ op = 13 ∨ op = 14 ∨ op = 15 := by omega
  rcases hop with rfl | rfl | rfl | rfl | rfl | rfl | rfl | rfl | rfl | rfl | rfl | rfl | rfl | rfl | rfl | rfl | rfl | rfl | rfl | rfl | rfl | rfl | rfl | rfl | rfl
  all_goals
    generalize hF : apW _ a b c = F
    simp only [apW, Nat.reduceEqDiff, if_true, if_false, or_true, true_or, or_self, or_false] at hF
  iterate 7
    focus
      refine runs_fr ok.k215 rfl fun x hx => ?_
      refine ex_sound 2000 _ _ _ _ ?_; (simp (maxSteps := 4000000) only [f215, c215, c1, Int.cast_ofNat_Int, LZ, seval, reduceCtorEq, forall_const])
      subst hF
      exact RetS.mkZ hx [] ⟨rfl, rfl, rfl⟩
  iterate 6
    focus
      refine runs_fr ok.k215 rfl fun x hx => ?_
      refine ex_sound 2000 _ _ _ _ ?_; (simp (maxSteps := 4000000) only [f215, c215, Int.cast_ofNat_Int, LZ, seval, reduceCtorEq, forall_const])
      refine call_pZ (hf _) ?_
      (simp (maxSteps := 4000000) only [LZ, seval, reduceCtorEq, forall_const])
      subst hF
      exact RetS.mkZ hx [] ⟨rfl, rfl, rfl⟩
  all_goals
    refine runs_fr ok.k215 rfl fun x hx => ?_
    refine ex_sound 2000 _ _ _ _ ?_; (simp (maxSteps := 4000000) only [f215, c215, Int.cast_ofNat_Int, LZ, seval, reduceCtorEq, forall_const])
    first
      | (refine call_pZ (h4) ?_)
      | (refine call_pZ (h5) ?_)
      | (refine call_pZ (h6) ?_)
      | (refine call_pZ (h7) ?_)
      | (refine call_pZ (h8) ?_)
      | (refine call_pZ (h9) ?_)
      | (refine call_pZ (h10) ?_)
      | (refine call_pZ (h11) ?_)
      | (refine call_pZ (h12) ?_)
      | (refine call_pZ (h13) ?_)
      | (refine call_pZ (h14) ?_)
      | (refine call_pZ (h15) ?_)
    (simp (maxSteps := 4000000) only [LZ, seval, reduceCtorEq, forall_const])
    subst hF
    exact RetS.mkZ hx [] ⟨rfl, rfl, rfl⟩
end Mv
