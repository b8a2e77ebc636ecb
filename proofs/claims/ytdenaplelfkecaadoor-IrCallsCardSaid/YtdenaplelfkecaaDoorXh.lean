/- The document's answer for layer 1: bit by bit. -/
import Derived.Test.YtdenaplelfkecaaDoorW1
import Derived.Test.YtdenaplelfkecaaDoorXg
set_option linter.unusedSimpArgs false
set_option linter.unusedVariables false
namespace Mv
open Go
set_option maxRecDepth 20000
set_option maxHeartbeats 4000000
set_option linter.unusedSimpArgs false

theorem bitW (b : BitVec 64) (n : Nat) : (b >>> n &&& 1#64 = 1#64) = (b.getLsbD n = true) := by
  apply propext
  have e : (b >>> n &&& 1#64).toNat = (b.getLsbD n).toNat := by
    rw [BitVec.toNat_and, BitVec.toNat_ushiftRight, show (1#64 : BitVec 64).toNat = 1 from rfl, Nat.and_one_is_mod, BitVec.getLsbD, Nat.testBit, Nat.shiftRight_eq_div_pow, Nat.one_and_eq_mod_two]
    rcases Nat.mod_two_eq_zero_or_one (b.toNat / 2 ^ n) with h | h <;> rw [h] <;> rfl
  constructor
  · intro h
    rw [h] at e
    cases hb : b.getLsbD n
    · rw [hb] at e; exact absurd e (by decide)
    · rfl
  · intro h
    rw [h] at e
    exact BitVec.eq_of_toNat_eq e
def tnI (F : BitVec 64) (s : BitVec 64 × BitVec 64) : Prop := s.1.toNat ≤ 64 ∧ ∀ j, s.2.getLsbD j = (decide (j < s.1.toNat) && F.getLsbD j)
theorem tn_nat {w : BitVec 64} (hw : w.toNat < 64) : (w + 1#64).toNat = w.toNat + 1 := by
  rw [BitVec.toNat_add, show (1#64 : BitVec 64).toNat = 1 from rfl]; omega
theorem tn_end {F w o : BitVec 64} (h : tnI F (w, o)) (hw : w.toNat = 64) : o = F := by
  apply BitVec.eq_of_getLsbD_eq
  intro i hi
  rw [h.2 i, hw, decide_eq_true hi, Bool.true_and]
theorem tn_set {F w o : BitVec 64} (h : tnI F (w, o)) (hw : w.toNat < 64) (hf : F.getLsbD w.toNat = true) : tnI F (w + 1#64, o ||| 1#64 <<< w.toNat) := by
  refine ⟨by show (w + 1#64).toNat ≤ 64; rw [tn_nat hw]; omega, fun j => ?_⟩
  show (o ||| 1#64 <<< w.toNat).getLsbD j = (decide (j < (w + 1#64).toNat) && F.getLsbD j)
  rw [tn_nat hw, BitVec.getLsbD_or, h.2 j]
  show ((decide (j < w.toNat) && F.getLsbD j) || (1#64 <<< w.toNat).getLsbD j) = _
  rw [BitVec.getLsbD_shiftLeft]
  by_cases h1 : j < w.toNat
  · rw [decide_eq_true h1, decide_eq_true (show j < w.toNat + 1 by omega)]
    simp
  · by_cases h2 : j = w.toNat
    · subst h2
      simp [hf, hw]
    · rw [decide_eq_false h1, decide_eq_false (show ¬ j < w.toNat + 1 by omega)]
      have : (1#64).getLsbD (j - w.toNat) = false := by
        rw [BitVec.getLsbD_one]; simp; omega
      simp [this]
theorem tn_no {F w o : BitVec 64} (h : tnI F (w, o)) (hw : w.toNat < 64) (hf : F.getLsbD w.toNat = false) : tnI F (w + 1#64, o) := by
  refine ⟨by show (w + 1#64).toNat ≤ 64; rw [tn_nat hw]; omega, fun j => ?_⟩
  show o.getLsbD j = (decide (j < (w + 1#64).toNat) && F.getLsbD j)
  rw [tn_nat hw, h.2 j]
  show (decide (j < w.toNat) && F.getLsbD j) = _
  by_cases h2 : j = w.toNat
  · subst h2; simp [hf]
  · have : decide (j < w.toNat) = decide (j < w.toNat + 1) := by
      by_cases h1 : j < w.toNat
      · rw [decide_eq_true h1, decide_eq_true (by omega)]
      · rw [decide_eq_false h1, decide_eq_false (by omega)]
    rw [this]

theorem tn_ms {w : BitVec 64} (hw : w.toNat < 64) : 64 - (w + 1#64).toNat < 64 - w.toNat := by rw [tn_nat hw]; omega
theorem vmm_W (a b : BitVec 64) (H : Hp) : vmm false (W a) (W b) H = ⟨True, W (if b < a then b else a), H⟩ := by
  simp only [vmm, W, BitVec.lt_def]
  by_cases h : b.toNat < a.toNat
  · rw [if_pos h, if_neg (by decide), if_pos (by omega)]
  · rw [if_neg h, if_neg (by decide), if_neg (by omega)]
theorem runs_turned13 {M : Seat} (ok : OkX M) (a b : BitVec 64) : Runs M 230 [.int .i64 13, W a, W b] [] 0 (fun r H' k' => r = W (shW 13 a b) ∧ H' = [] ∧ k' = 0) := by
  refine runs_fr ok.k230 rfl fun x hx => ?_
  generalize hF : shW 13 a b = F
  refine ex_sound 2000 _ _ _ _ ?_; (simp (maxSteps := 4000000) only [f230, c230, LZ, seval, reduceCtorEq, forall_const])
  refine loop_rule (σ := BitVec 64 × BitVec 64) (tnI F) (fun s => fr 81 [(0, .int .i64 13), (1, W a), (2, W b), (7, W s.2), (8, W s.1)]) (fun _ => []) (fun _ => 0) (fun s => 64 - s.1.toNat) (0#64, 0#64) ?_ ?_ ?_
  · refine ⟨by decide, fun j => ?_⟩
    show (0#64).getLsbD j = (decide (j < 0) && F.getLsbD j)
    simp
  · refine Weak.fr [] [] hx (by simp only [fr_length]) (by decide) ?_ ?_
    · simp only [LY, seval, reduceCtorEq, implies_true]
    · trivial
  · rintro ⟨w, o⟩ hI
    refine ex_sound 2000 _ _ _ _ ?_
    rcases Classical.propComplete (w < 64#64) with hw | hw
    · have hw' : w.toNat < 64 := by have := of_eq_true hw; rw [BitVec.lt_def] at this; exact this
      rcases Classical.propComplete (a ≤ w) with h1 | h1
      · have h1' := of_eq_true h1
        rw [BitVec.le_def] at h1'
        have hs : (w - a).toNat = w.toNat - a.toNat := by rw [BitVec.toNat_sub]; have := a.isLt; omega
        have g1 : (w - a < 64#64) = True := eq_true (by rw [BitVec.lt_def, hs]; show _ < 64; omega)
        have hg : F.getLsbD w.toNat = b.getLsbD (w - a).toNat := by
          rw [← hF, hs, shW]
          show (b <<< a.toNat).getLsbD w.toNat = _
          rw [BitVec.getLsbD_shiftLeft, decide_eq_true hw', decide_eq_false (show ¬ w.toNat < a.toNat by omega)]
          simp
        cases hb : b.getLsbD ((w - a).toNat)
        · have hf : F.getLsbD w.toNat = false := by rw [hg]; exact hb
          (simp (maxSteps := 4000000) only [hw, bitW, h1, g1, hb, LZ, seval, reduceCtorEq, forall_const])
          refine ⟨(w + 1#64, o), tn_no hI hw' hf, tn_ms hw', ?_⟩
          refine Weak.fr [] [] hx (by simp only [fr_length]) (by decide) ?_ ?_
          · simp only [LY, seval, reduceCtorEq, implies_true]
          · trivial
        · have hf : F.getLsbD w.toNat = true := by rw [hg]; exact hb
          (simp (maxSteps := 4000000) only [hw, bitW, h1, g1, hb, LZ, seval, reduceCtorEq, forall_const])
          refine ⟨(w + 1#64, o ||| 1#64 <<< w.toNat), tn_set hI hw' hf, tn_ms hw', ?_⟩
          refine Weak.fr [] [] hx (by simp only [fr_length]) (by decide) ?_ ?_
          · simp only [LY, seval, reduceCtorEq, implies_true]
          · trivial
      · have h1' := of_eq_false h1
        rw [BitVec.le_def] at h1'
        have hf : F.getLsbD w.toNat = false := by
          rw [← hF, shW]
          show (b <<< a.toNat).getLsbD w.toNat = _
          rw [BitVec.getLsbD_shiftLeft, decide_eq_true (show w.toNat < a.toNat by omega)]
          simp
        (simp (maxSteps := 4000000) only [hw, bitW, h1, LZ, seval, reduceCtorEq, forall_const])
        refine ⟨(w + 1#64, o), tn_no hI hw' hf, tn_ms hw', ?_⟩
        refine Weak.fr [] [] hx (by simp only [fr_length]) (by decide) ?_ ?_
        · simp only [LY, seval, reduceCtorEq, implies_true]
        · trivial
    · have hw' : w.toNat = 64 := by
        have := of_eq_false hw; rw [BitVec.lt_def] at this
        have h2 := hI.1
        have e : (64#64 : BitVec 64).toNat = 64 := rfl
        dsimp only at h2
        omega
      have e := tn_end hI hw'
      subst e
      (simp (maxSteps := 4000000) only [hw, LZ, seval, reduceCtorEq, forall_const])
      exact RetS.mkZ hx [] ⟨rfl, rfl, rfl⟩
theorem runs_turned14 {M : Seat} (ok : OkX M) (a b : BitVec 64) : Runs M 230 [.int .i64 14, W a, W b] [] 0 (fun r H' k' => r = W (shW 14 a b) ∧ H' = [] ∧ k' = 0) := by
  refine runs_fr ok.k230 rfl fun x hx => ?_
  generalize hF : shW 14 a b = F
  refine ex_sound 2000 _ _ _ _ ?_; (simp (maxSteps := 4000000) only [f230, c230, LZ, seval, reduceCtorEq, forall_const])
  refine loop_rule (σ := BitVec 64 × BitVec 64) (tnI F) (fun s => fr 81 [(0, .int .i64 14), (1, W a), (2, W b), (7, W s.2), (8, W s.1)]) (fun _ => []) (fun _ => 0) (fun s => 64 - s.1.toNat) (0#64, 0#64) ?_ ?_ ?_
  · refine ⟨by decide, fun j => ?_⟩
    show (0#64).getLsbD j = (decide (j < 0) && F.getLsbD j)
    simp
  · refine Weak.fr [] [] hx (by simp only [fr_length]) (by decide) ?_ ?_
    · simp only [LY, seval, reduceCtorEq, implies_true]
    · trivial
  · rintro ⟨w, o⟩ hI
    refine ex_sound 2000 _ _ _ _ ?_
    rcases Classical.propComplete (w < 64#64) with hw | hw
    · have hw' : w.toNat < 64 := by have := of_eq_true hw; rw [BitVec.lt_def] at this; exact this
      have h64 : (64#64 - w).toNat = 64 - w.toNat := by rw [BitVec.toNat_sub]; show (2 ^ 64 - w.toNat + 64) % 2 ^ 64 = _; omega
      rcases Classical.propComplete (a < 64#64 - w) with h1 | h1
      · have h1' := of_eq_true h1
        rw [BitVec.lt_def, h64] at h1'
        have hs : (w + a).toNat = a.toNat + w.toNat := by rw [BitVec.toNat_add]; omega
        have g1 : (w + a < 64#64) = True := eq_true (by rw [BitVec.lt_def, hs]; show _ < 64; omega)
        have hg : F.getLsbD w.toNat = b.getLsbD (w + a).toNat := by
          rw [← hF, hs, shW]
          show (b >>> a.toNat).getLsbD w.toNat = _
          rw [BitVec.getLsbD_ushiftRight]
        cases hb : b.getLsbD ((w + a).toNat)
        · have hf : F.getLsbD w.toNat = false := by rw [hg]; exact hb
          (simp (maxSteps := 4000000) only [hw, bitW, h1, g1, hb, LZ, seval, reduceCtorEq, forall_const])
          refine ⟨(w + 1#64, o), tn_no hI hw' hf, tn_ms hw', ?_⟩
          refine Weak.fr [] [] hx (by simp only [fr_length]) (by decide) ?_ ?_
          · simp only [LY, seval, reduceCtorEq, implies_true]
          · trivial
        · have hf : F.getLsbD w.toNat = true := by rw [hg]; exact hb
          (simp (maxSteps := 4000000) only [hw, bitW, h1, g1, hb, LZ, seval, reduceCtorEq, forall_const])
          refine ⟨(w + 1#64, o ||| 1#64 <<< w.toNat), tn_set hI hw' hf, tn_ms hw', ?_⟩
          refine Weak.fr [] [] hx (by simp only [fr_length]) (by decide) ?_ ?_
          · simp only [LY, seval, reduceCtorEq, implies_true]
          · trivial
      · have h1' := of_eq_false h1
        rw [BitVec.lt_def, h64] at h1'
        have hf : F.getLsbD w.toNat = false := by
          rw [← hF, shW]
          show (b >>> a.toNat).getLsbD w.toNat = _
          rw [BitVec.getLsbD_ushiftRight]
          exact BitVec.getLsbD_of_ge _ _ (by omega)
        (simp (maxSteps := 4000000) only [hw, bitW, h1, LZ, seval, reduceCtorEq, forall_const])
        refine ⟨(w + 1#64, o), tn_no hI hw' hf, tn_ms hw', ?_⟩
        refine Weak.fr [] [] hx (by simp only [fr_length]) (by decide) ?_ ?_
        · simp only [LY, seval, reduceCtorEq, implies_true]
        · trivial
    · have hw' : w.toNat = 64 := by
        have := of_eq_false hw; rw [BitVec.lt_def] at this
        have h2 := hI.1
        have e : (64#64 : BitVec 64).toNat = 64 := rfl
        dsimp only at h2
        omega
      have e := tn_end hI hw'
      subst e
      (simp (maxSteps := 4000000) only [hw, LZ, seval, reduceCtorEq, forall_const])
      exact RetS.mkZ hx [] ⟨rfl, rfl, rfl⟩
theorem runs_turned15 {M : Seat} (ok : OkX M) (a b : BitVec 64) : Runs M 230 [.int .i64 15, W a, W b] [] 0 (fun r H' k' => r = W (shW 15 a b) ∧ H' = [] ∧ k' = 0) := by
  refine runs_fr ok.k230 rfl fun x hx => ?_
  generalize hF : shW 15 a b = F
  refine ex_sound 2000 _ _ _ _ ?_; (simp (maxSteps := 4000000) only [f230, c230, LZ, seval, reduceCtorEq, forall_const])
  refine loop_rule (σ := BitVec 64 × BitVec 64) (tnI F) (fun s => fr 81 [(0, .int .i64 15), (1, W a), (2, W b), (7, W s.2), (8, W s.1)]) (fun _ => []) (fun _ => 0) (fun s => 64 - s.1.toNat) (0#64, 0#64) ?_ ?_ ?_
  · refine ⟨by decide, fun j => ?_⟩
    show (0#64).getLsbD j = (decide (j < 0) && F.getLsbD j)
    simp
  · refine Weak.fr [] [] hx (by simp only [fr_length]) (by decide) ?_ ?_
    · simp only [LY, seval, reduceCtorEq, implies_true]
    · trivial
  · rintro ⟨w, o⟩ hI
    refine ex_sound 2000 _ _ _ _ ?_
    rcases Classical.propComplete (w < 64#64) with hw | hw
    · have hw' : w.toNat < 64 := by have := of_eq_true hw; rw [BitVec.lt_def] at this; exact this
      have h64 : (64#64 - w).toNat = 64 - w.toNat := by rw [BitVec.toNat_sub]; show (2 ^ 64 - w.toNat + 64) % 2 ^ 64 = _; omega
      rcases Classical.propComplete (a < 64#64 - w) with h1 | h1
      · have h1' := of_eq_true h1
        rw [BitVec.lt_def, h64] at h1'
        have hs : (w + a).toNat = a.toNat + w.toNat := by rw [BitVec.toNat_add]; omega
        have g1 : (w + a < 64#64) = True := eq_true (by rw [BitVec.lt_def, hs]; show _ < 64; omega)
        have hg : F.getLsbD w.toNat = b.getLsbD (w + a).toNat := by
          rw [← hF, hs, shW]
          show (b.sshiftRight a.toNat).getLsbD w.toNat = _
          rw [BitVec.getLsbD_sshiftRight, decide_eq_false (show ¬ 64 ≤ w.toNat by omega), if_pos (by omega)]; simp
        cases hb : b.getLsbD ((w + a).toNat)
        · have hf : F.getLsbD w.toNat = false := by rw [hg]; exact hb
          (simp (maxSteps := 4000000) only [hw, bitW, h1, g1, hb, LZ, seval, reduceCtorEq, forall_const])
          refine ⟨(w + 1#64, o), tn_no hI hw' hf, tn_ms hw', ?_⟩
          refine Weak.fr [] [] hx (by simp only [fr_length]) (by decide) ?_ ?_
          · simp only [LY, seval, reduceCtorEq, implies_true]
          · trivial
        · have hf : F.getLsbD w.toNat = true := by rw [hg]; exact hb
          (simp (maxSteps := 4000000) only [hw, bitW, h1, g1, hb, LZ, seval, reduceCtorEq, forall_const])
          refine ⟨(w + 1#64, o ||| 1#64 <<< w.toNat), tn_set hI hw' hf, tn_ms hw', ?_⟩
          refine Weak.fr [] [] hx (by simp only [fr_length]) (by decide) ?_ ?_
          · simp only [LY, seval, reduceCtorEq, implies_true]
          · trivial
      · have h1' := of_eq_false h1
        rw [BitVec.lt_def, h64] at h1'
        have hg : F.getLsbD w.toNat = b.getLsbD 63 := by
          rw [← hF, shW]
          show (b.sshiftRight a.toNat).getLsbD w.toNat = _
          rw [BitVec.getLsbD_sshiftRight, decide_eq_false (show ¬ 64 ≤ w.toNat by omega), if_neg (by omega), BitVec.msb_eq_getLsbD_last]; simp
        cases hb : b.getLsbD (63)
        · have hf : F.getLsbD w.toNat = false := by rw [hg]; exact hb
          (simp (maxSteps := 4000000) only [hw, bitW, h1, hb, LZ, seval, reduceCtorEq, forall_const])
          refine ⟨(w + 1#64, o), tn_no hI hw' hf, tn_ms hw', ?_⟩
          refine Weak.fr [] [] hx (by simp only [fr_length]) (by decide) ?_ ?_
          · simp only [LY, seval, reduceCtorEq, implies_true]
          · trivial
        · have hf : F.getLsbD w.toNat = true := by rw [hg]; exact hb
          (simp (maxSteps := 4000000) only [hw, bitW, h1, hb, LZ, seval, reduceCtorEq, forall_const])
          refine ⟨(w + 1#64, o ||| 1#64 <<< w.toNat), tn_set hI hw' hf, tn_ms hw', ?_⟩
          refine Weak.fr [] [] hx (by simp only [fr_length]) (by decide) ?_ ?_
          · simp only [LY, seval, reduceCtorEq, implies_true]
          · trivial
    · have hw' : w.toNat = 64 := by
        have := of_eq_false hw; rw [BitVec.lt_def] at this
        have h2 := hI.1
        have e : (64#64 : BitVec 64).toNat = 64 := rfl
        dsimp only at h2
        omega
      have e := tn_end hI hw'
      subst e
      (simp (maxSteps := 4000000) only [hw, LZ, seval, reduceCtorEq, forall_const])
      exact RetS.mkZ hx [] ⟨rfl, rfl, rfl⟩
theorem runs_turned12 {M : Seat} (ok : OkX M) (a b : BitVec 64) : Runs M 230 [.int .i64 12, W a, W b] [] 0 (fun r H' k' => r = W (shW 12 a b) ∧ H' = [] ∧ k' = 0) := by
  refine runs_fr ok.k230 rfl fun x hx => ?_
  generalize hF : shW 12 a b = F
  refine ex_sound 2000 _ _ _ _ ?_; (simp (maxSteps := 4000000) only [f230, c230, LZ, seval, reduceCtorEq, forall_const])
  refine loop_rule (σ := BitVec 64 × BitVec 64) (tnI F) (fun s => fr 81 [(0, .int .i64 12), (1, W a), (2, W b), (7, W s.2), (8, W s.1)]) (fun _ => []) (fun _ => 0) (fun s => 64 - s.1.toNat) (0#64, 0#64) ?_ ?_ ?_
  · refine ⟨by decide, fun j => ?_⟩
    show (0#64).getLsbD j = (decide (j < 0) && F.getLsbD j)
    simp
  · refine Weak.fr [] [] hx (by simp only [fr_length]) (by decide) ?_ ?_
    · simp only [LY, seval, reduceCtorEq, implies_true]
    · trivial
  · rintro ⟨w, o⟩ hI
    refine ex_sound 2000 _ _ _ _ ?_
    rcases Classical.propComplete (w < 64#64) with hw | hw
    · have hw' : w.toNat < 64 := by have := of_eq_true hw; rw [BitVec.lt_def] at this; exact this
      rcases Classical.propComplete (w < 8#64) with h1 | h1
      · have h1' := of_eq_true h1
        rw [BitVec.lt_def] at h1'
        have h1' : w.toNat < 8 := h1'
        rcases Classical.propComplete (a < 8#64) with h2 | h2
        · have h2' := of_eq_true h2
          rw [BitVec.lt_def] at h2'
          have h2' : a.toNat < 8 := h2'
          have h7 : (7#64 < a) = False := eq_false (by rw [BitVec.lt_def]; show ¬ 7 < _; omega)
          have hm : (8#64 * a).toNat = 8 * a.toNat := by rw [BitVec.toNat_mul]; show 8 * a.toNat % 2 ^ 64 = _; omega
          have h56 : (56#64 - 8#64 * a).toNat = 56 - 8 * a.toNat := by rw [BitVec.toNat_sub, hm]; show (2 ^ 64 - 8 * a.toNat + 56) % 2 ^ 64 = _; omega
          have hs : (56#64 - 8#64 * a + w).toNat = 56 - 8 * a.toNat + w.toNat := by rw [BitVec.toNat_add, h56]; omega
          have g1 : (56#64 - 8#64 * a + w < 64#64) = True := eq_true (by rw [BitVec.lt_def, hs]; show _ < 64; omega)
          have hg : F.getLsbD w.toNat = b.getLsbD (56#64 - 8#64 * a + w).toNat := by
            rw [← hF, hs, shW, if_neg (by decide), if_pos rfl, if_neg (of_eq_false h7)]
            show ((b >>> (56#64 - 8#64 * a).toNat) &&& 255#64).getLsbD w.toNat = _
            rw [h56, BitVec.getLsbD_and, BitVec.getLsbD_ushiftRight]
            have : ∀ i, i < 8 → (255#64).getLsbD i = true := by decide
            rw [this _ h1', Bool.and_true]
          cases hb : b.getLsbD ((56#64 - 8#64 * a + w).toNat)
          · have hf : F.getLsbD w.toNat = false := by rw [hg]; exact hb
            (simp (maxSteps := 4000000) only [hw, bitW, vmm_W, h7, h1, h2, g1, hb, LZ, seval, reduceCtorEq, forall_const])
            refine ⟨(w + 1#64, o), tn_no hI hw' hf, tn_ms hw', ?_⟩
            refine Weak.fr [] [] hx (by simp only [fr_length]) (by decide) ?_ ?_
            · simp only [LY, seval, reduceCtorEq, implies_true]
            · trivial
          · have hf : F.getLsbD w.toNat = true := by rw [hg]; exact hb
            (simp (maxSteps := 4000000) only [hw, bitW, vmm_W, h7, h1, h2, g1, hb, LZ, seval, reduceCtorEq, forall_const])
            refine ⟨(w + 1#64, o ||| 1#64 <<< w.toNat), tn_set hI hw' hf, tn_ms hw', ?_⟩
            refine Weak.fr [] [] hx (by simp only [fr_length]) (by decide) ?_ ?_
            · simp only [LY, seval, reduceCtorEq, implies_true]
            · trivial
        · have h2' := of_eq_false h2
          rw [BitVec.lt_def] at h2'
          have h2' : ¬ a.toNat < 8 := h2'
          have h7 : (7#64 < a) = True := eq_true (by rw [BitVec.lt_def]; show 7 < _; omega)
          have hf : F.getLsbD w.toNat = false := by
            rw [← hF, shW, if_neg (by decide), if_pos rfl, if_pos (of_eq_true h7)]
            simp
          (simp (maxSteps := 4000000) only [hw, bitW, vmm_W, h7, h1, h2, LZ, seval, reduceCtorEq, forall_const])
          refine ⟨(w + 1#64, o), tn_no hI hw' hf, tn_ms hw', ?_⟩
          refine Weak.fr [] [] hx (by simp only [fr_length]) (by decide) ?_ ?_
          · simp only [LY, seval, reduceCtorEq, implies_true]
          · trivial
      · have h1' := of_eq_false h1
        rw [BitVec.lt_def] at h1'
        have h1' : ¬ w.toNat < 8 := h1'
        have hf : F.getLsbD w.toNat = false := by
          rw [← hF, shW, if_neg (by decide), if_pos rfl]
          split
          · simp
          · rw [BitVec.getLsbD_and]
            have : (255#64).getLsbD w.toNat = false := by
              have : ∀ i, i < 64 → ¬ i < 8 → (255#64).getLsbD i = false := by decide
              exact this _ hw' h1'
            rw [this, Bool.and_false]
        rcases Classical.propComplete (7#64 < a) with h7 | h7
        · skip
          (simp (maxSteps := 4000000) only [hw, bitW, vmm_W, h7, h1, LZ, seval, reduceCtorEq, forall_const])
          refine ⟨(w + 1#64, o), tn_no hI hw' hf, tn_ms hw', ?_⟩
          refine Weak.fr [] [] hx (by simp only [fr_length]) (by decide) ?_ ?_
          · simp only [LY, seval, reduceCtorEq, implies_true]
          · trivial
        · skip
          (simp (maxSteps := 4000000) only [hw, bitW, vmm_W, h7, h1, LZ, seval, reduceCtorEq, forall_const])
          refine ⟨(w + 1#64, o), tn_no hI hw' hf, tn_ms hw', ?_⟩
          refine Weak.fr [] [] hx (by simp only [fr_length]) (by decide) ?_ ?_
          · simp only [LY, seval, reduceCtorEq, implies_true]
          · trivial
    · have hw' : w.toNat = 64 := by
        have := of_eq_false hw; rw [BitVec.lt_def] at this
        have h2 := hI.1
        have e : (64#64 : BitVec 64).toNat = 64 := rfl
        dsimp only at h2
        omega
      have e := tn_end hI hw'
      subst e
      (simp (maxSteps := 4000000) only [hw, LZ, seval, reduceCtorEq, forall_const])
      exact RetS.mkZ hx [] ⟨rfl, rfl, rfl⟩
theorem runs_turned11 {M : Seat} (ok : OkX M) (a b : BitVec 64) : Runs M 230 [.int .i64 11, W a, W b] [] 0 (fun r H' k' => r = W (shW 11 a b) ∧ H' = [] ∧ k' = 0) := by
  refine runs_fr ok.k230 rfl fun x hx => ?_
  generalize hF : shW 11 a b = F
  refine ex_sound 2000 _ _ _ _ ?_; (simp (maxSteps := 4000000) only [f230, c230, LZ, seval, reduceCtorEq, forall_const])
  refine loop_rule (σ := BitVec 64 × BitVec 64) (tnI F) (fun s => fr 81 [(0, .int .i64 11), (1, W a), (2, W b), (7, W s.2), (8, W s.1)]) (fun _ => []) (fun _ => 0) (fun s => 64 - s.1.toNat) (0#64, 0#64) ?_ ?_ ?_
  · refine ⟨by decide, fun j => ?_⟩
    show (0#64).getLsbD j = (decide (j < 0) && F.getLsbD j)
    simp
  · refine Weak.fr [] [] hx (by simp only [fr_length]) (by decide) ?_ ?_
    · simp only [LY, seval, reduceCtorEq, implies_true]
    · trivial
  · rintro ⟨w, o⟩ hI
    refine ex_sound 2000 _ _ _ _ ?_
    rcases Classical.propComplete (w < 64#64) with hw | hw
    · have hw' : w.toNat < 64 := by have := of_eq_true hw; rw [BitVec.lt_def] at this; exact this
      rcases Classical.propComplete (a < 8#64) with h1 | h1
      · have h1' := of_eq_true h1
        rw [BitVec.lt_def] at h1'
        have h1' : a.toNat < 8 := h1'
        have hm : (8#64 * a).toNat = 8 * a.toNat := by rw [BitVec.toNat_mul]; show 8 * a.toNat % 2 ^ 64 = _; omega
        have h56 : (56#64 - 8#64 * a).toNat = if a.toNat = 7 then 0 else 56 - 8 * a.toNat := by
          rw [BitVec.toNat_sub, hm]; show (2 ^ 64 - 8 * a.toNat + 56) % 2 ^ 64 = _; split <;> omega
        have hs : (8#64 * a + 7#64).toNat = 8 * a.toNat + 7 := by rw [BitVec.toNat_add, hm]; show (8 * a.toNat + 7) % 2 ^ 64 = _; omega
        have hbit : F.getLsbD w.toNat = if 8 * a.toNat + 7 < w.toNat then b.getLsbD (8 * a.toNat + 7) else b.getLsbD w.toNat := by
          rw [← hF, shW, if_pos rfl]
          by_cases h7 : 7#64 ≤ a
          · rw [if_pos h7]
            rw [BitVec.le_def] at h7
            have h7 : 7 ≤ a.toNat := h7
            rw [if_neg (by omega)]
          · rw [if_neg h7]
            rw [BitVec.le_def] at h7
            have h7 : ¬ 7 ≤ a.toNat := h7
            rw [if_neg (by omega)] at h56
            show ((b <<< (56#64 - 8#64 * a).toNat).sshiftRight (56#64 - 8#64 * a).toNat).getLsbD w.toNat = _
            rw [h56, BitVec.getLsbD_sshiftRight, decide_eq_false (show ¬ 64 ≤ w.toNat by omega)]
            by_cases hc : 8 * a.toNat + 7 < w.toNat
            · rw [if_neg (by omega), if_pos hc, BitVec.msb_eq_getLsbD_last, BitVec.getLsbD_shiftLeft, decide_eq_false (show ¬ 64 - 1 < 56 - 8 * a.toNat by omega)]
              simp
              congr 1
              omega
            · rw [if_pos (by omega), if_neg hc, BitVec.getLsbD_shiftLeft, decide_eq_false (show ¬ 56 - 8 * a.toNat + w.toNat < 56 - 8 * a.toNat by omega), decide_eq_true (show 56 - 8 * a.toNat + w.toNat < 64 by omega)]
              simp
        rcases Classical.propComplete (8#64 * a + 7#64 < w) with h2 | h2
        · have h2' := of_eq_true h2
          rw [BitVec.lt_def, hs] at h2'
          have g1 : (8#64 * a + 7#64 < 64#64) = True := eq_true (by rw [BitVec.lt_def, hs]; show _ < 64; omega)
          have hg : F.getLsbD w.toNat = b.getLsbD (8#64 * a + 7#64).toNat := by rw [hbit, if_pos h2', hs]
          cases hb : b.getLsbD ((8#64 * a + 7#64).toNat)
          · have hf : F.getLsbD w.toNat = false := by rw [hg]; exact hb
            (simp (maxSteps := 4000000) only [hw, bitW, vmm_W, h1, h2, g1, hb, LZ, seval, reduceCtorEq, forall_const])
            refine ⟨(w + 1#64, o), tn_no hI hw' hf, tn_ms hw', ?_⟩
            refine Weak.fr [] [] hx (by simp only [fr_length]) (by decide) ?_ ?_
            · simp only [LY, seval, reduceCtorEq, implies_true]
            · trivial
          · have hf : F.getLsbD w.toNat = true := by rw [hg]; exact hb
            (simp (maxSteps := 4000000) only [hw, bitW, vmm_W, h1, h2, g1, hb, LZ, seval, reduceCtorEq, forall_const])
            refine ⟨(w + 1#64, o ||| 1#64 <<< w.toNat), tn_set hI hw' hf, tn_ms hw', ?_⟩
            refine Weak.fr [] [] hx (by simp only [fr_length]) (by decide) ?_ ?_
            · simp only [LY, seval, reduceCtorEq, implies_true]
            · trivial
        · have h2' := of_eq_false h2
          rw [BitVec.lt_def, hs] at h2'
          have hg : F.getLsbD w.toNat = b.getLsbD w.toNat := by rw [hbit, if_neg h2']
          cases hb : b.getLsbD (w.toNat)
          · have hf : F.getLsbD w.toNat = false := by rw [hg]; exact hb
            (simp (maxSteps := 4000000) only [hw, bitW, vmm_W, h1, h2, hb, LZ, seval, reduceCtorEq, forall_const])
            refine ⟨(w + 1#64, o), tn_no hI hw' hf, tn_ms hw', ?_⟩
            refine Weak.fr [] [] hx (by simp only [fr_length]) (by decide) ?_ ?_
            · simp only [LY, seval, reduceCtorEq, implies_true]
            · trivial
          · have hf : F.getLsbD w.toNat = true := by rw [hg]; exact hb
            (simp (maxSteps := 4000000) only [hw, bitW, vmm_W, h1, h2, hb, LZ, seval, reduceCtorEq, forall_const])
            refine ⟨(w + 1#64, o ||| 1#64 <<< w.toNat), tn_set hI hw' hf, tn_ms hw', ?_⟩
            refine Weak.fr [] [] hx (by simp only [fr_length]) (by decide) ?_ ?_
            · simp only [LY, seval, reduceCtorEq, implies_true]
            · trivial
      · have h1' := of_eq_false h1
        rw [BitVec.lt_def] at h1'
        have h1' : ¬ a.toNat < 8 := h1'
        have hg : F.getLsbD w.toNat = b.getLsbD w.toNat := by
          rw [← hF, shW, if_pos rfl, if_pos (by rw [BitVec.le_def]; show 7 ≤ _; omega)]
        cases hb : b.getLsbD (w.toNat)
        · have hf : F.getLsbD w.toNat = false := by rw [hg]; exact hb
          (simp (maxSteps := 4000000) only [hw, bitW, h1, hb, LZ, seval, reduceCtorEq, forall_const])
          refine ⟨(w + 1#64, o), tn_no hI hw' hf, tn_ms hw', ?_⟩
          refine Weak.fr [] [] hx (by simp only [fr_length]) (by decide) ?_ ?_
          · simp only [LY, seval, reduceCtorEq, implies_true]
          · trivial
        · have hf : F.getLsbD w.toNat = true := by rw [hg]; exact hb
          (simp (maxSteps := 4000000) only [hw, bitW, h1, hb, LZ, seval, reduceCtorEq, forall_const])
          refine ⟨(w + 1#64, o ||| 1#64 <<< w.toNat), tn_set hI hw' hf, tn_ms hw', ?_⟩
          refine Weak.fr [] [] hx (by simp only [fr_length]) (by decide) ?_ ?_
          · simp only [LY, seval, reduceCtorEq, implies_true]
          · trivial
    · have hw' : w.toNat = 64 := by
        have := of_eq_false hw; rw [BitVec.lt_def] at this
        have h2 := hI.1
        have e : (64#64 : BitVec 64).toNat = 64 := rfl
        dsimp only at h2
        omega
      have e := tn_end hI hw'
      subst e
      (simp (maxSteps := 4000000) only [hw, LZ, seval, reduceCtorEq, forall_const])
      exact RetS.mkZ hx [] ⟨rfl, rfl, rfl⟩
end Mv
namespace Mv
open Go
set_option maxRecDepth 20000
set_option maxHeartbeats 4000000
set_option linter.unusedSimpArgs false

/-- A power. -/
def pwn (a : BitVec 64) (n : Nat) : BitVec 64 := BitVec.ofNat 64 (a.toNat ^ n)
theorem pwn_mul (a : BitVec 64) (m n : Nat) : pwn a m * pwn a n = pwn a (m + n) := by
  apply BitVec.eq_of_toNat_eq
  rw [pwn, pwn, pwn, BitVec.toNat_mul, BitVec.toNat_ofNat, BitVec.toNat_ofNat, BitVec.toNat_ofNat, ← Nat.mul_mod, Nat.pow_add]
theorem pwn_one (a : BitVec 64) : pwn a 1 = a := by
  apply BitVec.eq_of_toNat_eq
  rw [pwn, BitVec.toNat_ofNat, Nat.pow_one, Nat.mod_eq_of_lt a.isLt]
theorem pwn_sq (a : BitVec 64) (n : Nat) : pwn (a * a) n = pwn a (2 * n) := by
  apply BitVec.eq_of_toNat_eq
  rw [pwn, pwn, BitVec.toNat_ofNat, BitVec.toNat_ofNat, BitVec.toNat_mul, ← Nat.pow_mod, Nat.two_mul, Nat.pow_add, Nat.mul_pow]
theorem pwr_eq : ∀ (k : Nat) (a b p : BitVec 64), b.toNat < 2 ^ k → pwr k a b p = p * pwn a b.toNat
  | 0, a, b, p, h => by
    have h0 : b.toNat = 0 := by have : b.toNat < 1 := h; omega
    rw [pwr, h0, pwn, Nat.pow_zero, BitVec.mul_one]
  | k + 1, a, b, p, h => by
    rw [pwr]
    split
    · rename_i h0
      rw [h0]
      show p = p * pwn a 0
      rw [pwn, Nat.pow_zero, BitVec.mul_one]
    · have hs : (b >>> 1).toNat = b.toNat / 2 := by rw [BitVec.toNat_ushiftRight, Nat.shiftRight_eq_div_pow]
      rw [pwr_eq k _ _ _ (by rw [hs]; rw [Nat.pow_succ] at h; omega), pwn_sq, hs]
      have e1 : (b &&& 1#64).toNat = b.toNat % 2 := by rw [BitVec.toNat_and, show (1#64 : BitVec 64).toNat = 1 from rfl, Nat.and_one_is_mod]
      split
      · rename_i h1
        rw [h1] at e1
        have e1 : 1 = b.toNat % 2 := e1
        rw [BitVec.mul_assoc]
        congr 1
        have : a = pwn a 1 := (pwn_one a).symm
        conv => lhs; lhs; rw [this]
        rw [pwn_mul]
        congr 1; omega
      · rename_i h1
        have : b.toNat % 2 ≠ 1 := fun h => h1 (BitVec.eq_of_toNat_eq (by rw [e1, h]; rfl))
        congr 2; omega

theorem runs_pow01 {M : Seat} (ok : OkX M) (a b c : BitVec 64) : Runs M 90 [.int .i64 10, W a, W b, W c] [] 0 (fun r H' k' => r = tup2 (W (pwr 64 a b 1#64)) (.int .i64 0) ∧ H' = [] ∧ k' = 0) := by
  rw [pwr_eq 64 a b 1#64 b.isLt, BitVec.one_mul]
  generalize hF : pwn a b.toNat = F
  refine runs_fr ok.k90 rfl fun x hx => ?_
  refine ex_sound 2000 _ _ _ _ ?_; (simp (maxSteps := 4000000) only [f90, c90, LZ, seval, reduceCtorEq, forall_const])
  refine loop_rule (σ := Nat × BitVec 64) (fun s => s.1 ≤ 64 ∧ s.2 = pwn a (b.toNat / 2 ^ s.1)) (fun s => fr 162 [(1, W a), (2, W b), (16, W s.2), (17, .int .i64 ((s.1 : Int) - 1))]) (fun _ => []) (fun _ => 0) (fun s => s.1) (64, 1#64) ?_ ?_ ?_
  · refine ⟨Nat.le_refl _, ?_⟩
    show 1#64 = _
    rw [Nat.div_eq_of_lt b.isLt, pwn, Nat.pow_zero]
  · refine Weak.fr [] [] hx (by simp only [fr_length]) (by decide) ?_ ?_
    · simp only [LY, seval, reduceCtorEq, implies_true]
    · trivial
  · rintro ⟨k, p⟩ ⟨hk, hp⟩
    dsimp only at hk hp
    refine ex_sound 2000 _ _ _ _ ?_
    cases k with
    | zero =>
      have hz : (((0 : Nat) : Int) - 1) = -1 := rfl
      rw [Nat.pow_zero, Nat.div_one] at hp
      have e1 : p = F := by rw [hp, hF]
      subst e1
      (simp (maxSteps := 4000000) only [hz, LZ, seval, reduceCtorEq, forall_const])
      refine RetS.mk hx [] [] _ _ _ (by decide) (by (simp only [LV, tup2, LZ, seval, reduceCtorEq, forall_const])) (by ((try simp only [LV, tup2, LZ, seval, reduceCtorEq, forall_const, LY, seval, reduceCtorEq, implies_true]); first | done | exact True.intro | (intros; rfl))) (by ((try simp only [tup2, LY, seval, reduceCtorEq, implies_true]); first | done | exact True.intro | (intros; rfl))) ⟨rfl, rfl, rfl⟩
    | succ k =>
      have hz : (((k + 1 : Nat) : Int) - 1) = k := by omega
      have g0 : (0 ≤ (k : Int)) = True := eq_true (by omega)
      have w1 : IntKind.i64.wrap ((k : Int) - 1) = (k : Int) - 1 := wrap_i64 (by omega)
      have w3 := ofInt_sm k (by omega)
      have hb := bitW b k
      have hd : b.toNat / 2 ^ (k + 1) = b.toNat / 2 ^ k / 2 := by rw [Nat.pow_succ, Nat.div_div_eq_div_mul]
      have hbb : b.getLsbD k = decide (b.toNat / 2 ^ k % 2 = 1) := by
        rw [BitVec.getLsbD, Nat.testBit, Nat.shiftRight_eq_div_pow, Nat.one_and_eq_mod_two]
        rcases Nat.mod_two_eq_zero_or_one (b.toNat / 2 ^ k) with h | h <;> rw [h] <;> rfl
      have hpp : p * p = pwn a (b.toNat / 2 ^ k / 2 + b.toNat / 2 ^ k / 2) := by rw [hp, hd, pwn_mul]
      by_cases h1 : b.toNat / 2 ^ k % 2 = 1
      · rw [decide_eq_true h1] at hbb
        have hs : p * p * a = pwn a (b.toNat / 2 ^ k) := by
          rw [hpp]
          conv => lhs; rhs; rw [← pwn_one a]
          rw [pwn_mul]; congr 1; omega
        (simp (maxSteps := 4000000) only [hz, g0, w1, w3, hb, hbb, LZ, seval, reduceCtorEq, forall_const])
        refine ⟨(k, p * p * a), (show k ≤ 64 by omega), hs, Nat.lt_succ_self k, ?_⟩
        refine Weak.fr [] [] hx (by simp only [fr_length]) (by decide) ?_ ?_
        · simp only [LY, seval, reduceCtorEq, implies_true]
        · trivial
      · rw [decide_eq_false h1] at hbb
        have hs : p * p = pwn a (b.toNat / 2 ^ k) := by rw [hpp]; congr 1; omega
        (simp (maxSteps := 4000000) only [hz, g0, w1, w3, hb, hbb, LZ, seval, reduceCtorEq, forall_const])
        refine ⟨(k, p * p), (show k ≤ 64 by omega), hs, Nat.lt_succ_self k, ?_⟩
        refine Weak.fr [] [] hx (by simp only [fr_length]) (by decide) ?_ ?_
        · simp only [LY, seval, reduceCtorEq, implies_true]
        · trivial

theorem slt_flip (a b : BitVec 64) : (a ^^^ 9223372036854775808#64 < b ^^^ 9223372036854775808#64) = (a.toInt < b.toInt) := by
  have e : ∀ a : BitVec 64, (a ^^^ 9223372036854775808#64).toNat = (a.toInt + 9223372036854775808).toNat := by
    intro a
    have h1 : (a ^^^ 9223372036854775808#64).toNat = a.toNat ^^^ 2 ^ 63 := by rw [BitVec.toNat_xor]; rfl
    have d1 : (a.toNat ^^^ 2 ^ 63) / 2 ^ 63 = a.toNat / 2 ^ 63 ^^^ 1 := by rw [Nat.xor_div_two_pow]
    have d2 : (a.toNat ^^^ 2 ^ 63) % 2 ^ 63 = a.toNat % 2 ^ 63 := by rw [Nat.xor_mod_two_pow, Nat.mod_self, Nat.xor_zero]
    have := a.isLt
    rw [h1, BitVec.toInt_eq_toNat_cond]
    by_cases h : a.toNat / 2 ^ 63 = 0
    · rw [h] at d1
      have d1 : (a.toNat ^^^ 2 ^ 63) / 2 ^ 63 = 1 := d1
      split <;> omega
    · have h : a.toNat / 2 ^ 63 = 1 := by omega
      rw [h] at d1
      have d1 : (a.toNat ^^^ 2 ^ 63) / 2 ^ 63 = 0 := d1
      split <;> omega
  have k1 := BitVec.toInt_lt (x := a)
  have k2 := BitVec.le_toInt a
  have k3 := BitVec.toInt_lt (x := b)
  have k4 := BitVec.le_toInt b
  have e63 : (2 : Int) ^ (64 - 1) = 9223372036854775808 := by decide
  rw [e63] at k1 k2 k3 k4
  rw [BitVec.lt_def, e, e]
  apply propext
  omega
theorem Rest_mod (hi lo c : BitVec 64) (n : Nat) (h : T128 hi lo = n) : rsR hi lo c = BitVec.ofNat 64 (n % c.toNat) := by rw [rsR, h]
theorem T128_mul (a b : BitVec 64) : T128 (mhi a b) (a * b) = a.toNat * b.toNat := by
  rw [T128, mhi_nat, BitVec.toNat_mul]
  have := Nat.div_add_mod (a.toNat * b.toNat) 18446744073709551616
  have e2 : (2 : Nat) ^ 64 = 18446744073709551616 := by decide
  rw [e2]
  omega
theorem T128_add (a b : BitVec 64) : T128 (flg (decide (a + b < a))) (a + b) = a.toNat + b.toNat := by
  have h1 := a.isLt
  have h2 := b.isLt
  rw [T128, BitVec.toNat_add]
  by_cases h : a + b < a
  · rw [decide_eq_true h]
    rw [BitVec.lt_def, BitVec.toNat_add] at h
    show 1 * 18446744073709551616 + _ = _
    omega
  · rw [decide_eq_false h]
    rw [BitVec.lt_def, BitVec.toNat_add] at h
    show 0 * 18446744073709551616 + _ = _
    omega

theorem runs_md8 {M : Seat} (ok : OkX M) (a b c : BitVec 64) : Runs M 90 [.int .i64 8, W a, W b, W c] [] 0 (fun r H' k' => r = tup2 (W (apW 8 a b c)) (.int .i64 0) ∧ H' = [] ∧ k' = 0) := by
  refine runs_fr ok.k90 rfl fun x hx => ?_
  by_cases hb : c = 0#64
  · subst hb
    refine ex_sound 2000 _ _ _ _ ?_; (simp (maxSteps := 4000000) only [f90, c90, LZ, seval, reduceCtorEq, forall_const])
    refine RetS.mk hx [] [] _ _ _ (by decide) (by (simp only [LV, tup2, apW, LZ, seval, reduceCtorEq, forall_const])) (by ((try simp only [LV, tup2, apW, LZ, seval, reduceCtorEq, forall_const, LY, seval, reduceCtorEq, implies_true]); first | done | exact True.intro | (intros; rfl))) (by ((try simp only [tup2, apW, LY, seval, reduceCtorEq, implies_true]); first | done | exact True.intro | (intros; rfl))) ⟨rfl, rfl, rfl⟩
  · have z0 : (c = 0#64) = False := eq_false hb
    have r1 := runs_Rest ok (flg (decide (a + b < a))) (a + b) c (pos_w c hb)
    rw [Rest_mod _ _ _ _ (T128_add a b)] at r1
    generalize hF : apW 8 a b c = F
    simp only [apW, Nat.reduceEqDiff, if_true, if_false, or_true, true_or, or_self, or_false, z0] at hF
    rw [hF] at r1
    refine ex_sound 2000 _ _ _ _ ?_; (simp (maxSteps := 4000000) only [f90, c90, z0, LZ, seval, reduceCtorEq, forall_const])
    refine call_pZ (runs_Wide ok a b) ?_
    (simp (maxSteps := 4000000) only [tup2, LZ, seval, reduceCtorEq, forall_const])
    refine call_pZ (runs_one ok _) ?_
    try (simp (maxSteps := 4000000) only [LZ, seval, reduceCtorEq, forall_const])
    refine call_pZ (r1) ?_
    (simp (maxSteps := 4000000) only [tup2, LZ, seval, reduceCtorEq, forall_const])
    refine RetS.mk hx [] [] _ _ _ (by decide) (by (simp only [LV, tup2, LZ, seval, reduceCtorEq, forall_const])) (by ((try simp only [LV, tup2, LZ, seval, reduceCtorEq, forall_const, LY, seval, reduceCtorEq, implies_true]); first | done | exact True.intro | (intros; rfl))) (by ((try simp only [tup2, LY, seval, reduceCtorEq, implies_true]); first | done | exact True.intro | (intros; rfl))) ⟨rfl, rfl, rfl⟩
theorem runs_md9 {M : Seat} (ok : OkX M) (a b c : BitVec 64) : Runs M 90 [.int .i64 9, W a, W b, W c] [] 0 (fun r H' k' => r = tup2 (W (apW 9 a b c)) (.int .i64 0) ∧ H' = [] ∧ k' = 0) := by
  refine runs_fr ok.k90 rfl fun x hx => ?_
  by_cases hb : c = 0#64
  · subst hb
    refine ex_sound 2000 _ _ _ _ ?_; (simp (maxSteps := 4000000) only [f90, c90, LZ, seval, reduceCtorEq, forall_const])
    refine RetS.mk hx [] [] _ _ _ (by decide) (by (simp only [LV, tup2, apW, LZ, seval, reduceCtorEq, forall_const])) (by ((try simp only [LV, tup2, apW, LZ, seval, reduceCtorEq, forall_const, LY, seval, reduceCtorEq, implies_true]); first | done | exact True.intro | (intros; rfl))) (by ((try simp only [tup2, apW, LY, seval, reduceCtorEq, implies_true]); first | done | exact True.intro | (intros; rfl))) ⟨rfl, rfl, rfl⟩
  · have z0 : (c = 0#64) = False := eq_false hb
    have r1 := runs_Rest ok (mhi a b) (a * b) c (pos_w c hb)
    rw [Rest_mod _ _ _ _ (T128_mul a b)] at r1
    generalize hF : apW 9 a b c = F
    simp only [apW, Nat.reduceEqDiff, if_true, if_false, or_true, true_or, or_self, or_false, z0] at hF
    rw [hF] at r1
    refine ex_sound 2000 _ _ _ _ ?_; (simp (maxSteps := 4000000) only [f90, c90, z0, LZ, seval, reduceCtorEq, forall_const])
    refine call_pZ (runs_Wide ok a b) ?_
    (simp (maxSteps := 4000000) only [tup2, LZ, seval, reduceCtorEq, forall_const])
    skip
    try (simp (maxSteps := 4000000) only [LZ, seval, reduceCtorEq, forall_const])
    refine call_pZ (r1) ?_
    (simp (maxSteps := 4000000) only [tup2, LZ, seval, reduceCtorEq, forall_const])
    refine RetS.mk hx [] [] _ _ _ (by decide) (by (simp only [LV, tup2, LZ, seval, reduceCtorEq, forall_const])) (by ((try simp only [LV, tup2, LZ, seval, reduceCtorEq, forall_const, LY, seval, reduceCtorEq, implies_true]); first | done | exact True.intro | (intros; rfl))) (by ((try simp only [tup2, LY, seval, reduceCtorEq, implies_true]); first | done | exact True.intro | (intros; rfl))) ⟨rfl, rfl, rfl⟩

theorem runs_Apply01 {M : Seat} (ok : OkX M) (op : Nat) (h1 : 1 ≤ op) (h2 : op ≤ 25) (a b c : BitVec 64) : Runs M 90 [.int .i64 op, W a, W b, W c] [] 0 (fun r H' k' => r = tup2 (W (apW op a b c)) (.int .i64 0) ∧ H' = [] ∧ k' = 0) := by
  have c1 : ((1 : Nat) : Int) = 1 := rfl
  have h4 := runs_dv4 ok a b
  have h5 := runs_dv5 ok a b
  have h6 := runs_dv6 ok a b
  have h7 := runs_dv7 ok a b
  have h11 := runs_turned11 ok a b
  have h12 := runs_turned12 ok a b
  have h13 := runs_turned13 ok a b
  have h14 := runs_turned14 ok a b
  have h15 := runs_turned15 ok a b
  have hf := fun t => runs_one ok t
  have hop : op = 8 ∨ op = 9 ∨ op = 10 ∨ op = 1 ∨ op = 2 ∨ op = 22 ∨ op = 23 ∨ op = 24 ∨ op = 25 ∨ op = 16 ∨ op = 17 ∨ op = 18 ∨ op = 19 ∨ op = 20 ∨ op = 21 ∨ op = 3 ∨ op = 4 ∨ op = 5 ∨ op = 6 ∨ op = 7 ∨ op = 11 ∨ op = 12 ∨ op = 13 ∨ op = 14 ∨ op = 15 := by omega
  rcases hop with rfl | rfl | rfl | rfl | rfl | rfl | rfl | rfl | rfl | rfl | rfl | rfl | rfl | rfl | rfl | rfl | rfl | rfl | rfl | rfl | rfl | rfl | rfl | rfl | rfl
  · exact runs_md8 ok a b c
  · exact runs_md9 ok a b c
  · exact runs_pow01 ok a b c
  all_goals
    generalize hF : apW _ a b c = F
    simp only [apW, Nat.reduceEqDiff, if_true, if_false, or_true, true_or, or_self, or_false] at hF
  iterate 6
    focus
      refine runs_fr ok.k90 rfl fun x hx => ?_
      refine ex_sound 2000 _ _ _ _ ?_; (simp (maxSteps := 4000000) only [f90, c90, c1, Int.cast_ofNat_Int, LZ, seval, reduceCtorEq, forall_const])
      subst hF
      refine RetS.mk hx [] [] _ _ _ (by decide) (by (simp only [LV, tup2, LZ, seval, reduceCtorEq, forall_const])) (by ((try simp only [LV, tup2, LZ, seval, reduceCtorEq, forall_const, LY, seval, reduceCtorEq, implies_true]); first | done | exact True.intro | (intros; rfl))) (by ((try simp only [tup2, LY, seval, reduceCtorEq, implies_true]); first | done | exact True.intro | (intros; rfl))) ⟨rfl, rfl, rfl⟩
  iterate 6
    focus
      refine runs_fr ok.k90 rfl fun x hx => ?_
      refine ex_sound 2000 _ _ _ _ ?_; (simp (maxSteps := 4000000) only [f90, c90, Int.cast_ofNat_Int, slt_flip, LZ, seval, reduceCtorEq, forall_const])
      refine call_pZ (hf _) ?_
      (simp (maxSteps := 4000000) only [LZ, seval, reduceCtorEq, forall_const])
      subst hF
      refine RetS.mk hx [] [] _ _ _ (by decide) (by (simp only [LV, tup2, LZ, seval, reduceCtorEq, forall_const])) (by ((try simp only [LV, tup2, LZ, seval, reduceCtorEq, forall_const, LY, seval, reduceCtorEq, implies_true]); first | done | exact True.intro | (intros; rfl))) (by ((try simp only [tup2, LY, seval, reduceCtorEq, implies_true]); first | done | exact True.intro | (intros; rfl))) ⟨rfl, rfl, rfl⟩
  all_goals
    refine runs_fr ok.k90 rfl fun x hx => ?_
    refine ex_sound 2000 _ _ _ _ ?_; (simp (maxSteps := 4000000) only [f90, c90, Int.cast_ofNat_Int, LZ, seval, reduceCtorEq, forall_const])
    first
      | (refine call_pZ (runs_Wide ok a b) ?_)
      | (refine call_pZ (h4) ?_)
      | (refine call_pZ (h5) ?_)
      | (refine call_pZ (h6) ?_)
      | (refine call_pZ (h7) ?_)
      | (refine call_pZ (h11) ?_)
      | (refine call_pZ (h12) ?_)
      | (refine call_pZ (h13) ?_)
      | (refine call_pZ (h14) ?_)
      | (refine call_pZ (h15) ?_)
    (simp (maxSteps := 4000000) only [tup2, LZ, seval, reduceCtorEq, forall_const])
    subst hF
    refine RetS.mk hx [] [] _ _ _ (by decide) (by (simp only [LV, tup2, LZ, seval, reduceCtorEq, forall_const])) (by ((try simp only [LV, tup2, LZ, seval, reduceCtorEq, forall_const, LY, seval, reduceCtorEq, implies_true]); first | done | exact True.intro | (intros; rfl))) (by ((try simp only [tup2, LY, seval, reduceCtorEq, implies_true]); first | done | exact True.intro | (intros; rfl))) ⟨rfl, rfl, rfl⟩
end Mv
