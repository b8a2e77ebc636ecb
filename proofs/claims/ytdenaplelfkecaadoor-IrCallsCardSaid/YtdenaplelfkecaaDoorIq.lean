/- IrCalls. -/
import Derived.Test.YtdenaplelfkecaaDoorW1
import Derived.Test.YtdenaplelfkecaaDoorIp
set_option linter.unusedSimpArgs false
set_option linter.unusedVariables false
namespace Mv
open Go
set_option maxRecDepth 20000
set_option maxHeartbeats 4000000
set_option linter.unusedSimpArgs false

theorem urem_lt' (a : BitVec 64) : (a % 25#64).toNat < 25 := by
  rw [BitVec.toNat_umod]; exact Nat.mod_lt _ (by decide)
theorem rb_5 (P : List Fu) (i l : Nat) (a b c d e : IrSt) (ca cb cc cd ce : Nat) (ha : RgS P i l a ca) (hb : RgS P i l b cb) (hc : RgS P i l c cc) (hd : RgS P i l d cd) (he : RgS P i l e ce) : RB P i (l + 1) [a, b, c, d, e] (ca + (cb + (cc + (cd + ce)))) :=
  RB.mk l [a, b, c, d, e] (fun j => if j = 0 then ca else if j = 1 then cb else if j = 2 then cc else if j = 3 then cd else ce) (by simp) (fun j hj => by
    have : j = 0 ∨ j = 1 ∨ j = 2 ∨ j = 3 ∨ j = 4 := by simp at hj; omega
    rcases this with rfl | rfl | rfl | rfl | rfl
    · exact ha
    · exact hb
    · exact hc
    · exact hd
    · exact he)
theorem ic_F1 (P : List Fu) (k : Nat) (h1 : 1 ≤ k) (h2 : k ≤ 25) (n : Nat) (hn : n = 1 ∨ n = 2 ∨ n = 3) (hk : arN k = n) (hl : locI P 1 = 5) : RB P 1 16 (icF k (icA n)).body (8 + n) := by
  have g : ∀ w : BitVec 64, w.toNat < 5 → (w.toNat : Int) < locI P 1 := fun w h => by rw [hl]; omega
  have hb : locI P 1 < 1000 := by rw [hl]; decide
  have lo : ∀ l w, w.toNat < 5 → RE P 1 (l + 1) (lE w) 1 := fun l w h => re_loc _ _ _ _ (g w h) hb
  have ho : RE P 1 7 (.mk k 0#64 (icA n)) (1 + n) := by
    have hd : Nd P 1 (.mk k 0#64 (icA n)) := .ar _ _ _ (by omega) (by omega) (by rw [hk]; rcases hn with rfl | rfl | rfl <;> rfl)
    rcases hn with rfl | rfl | rfl
    · exact re_1 _ _ 6 _ _ _ _ hd (lo _ _ (by decide))
    · exact re_2 _ _ 6 _ _ _ _ _ _ hd (lo _ _ (by decide)) (lo _ _ (by decide))
    · exact re_3 _ _ 6 _ _ _ _ _ _ _ _ hd (lo _ _ (by decide)) (lo _ _ (by decide)) (lo _ _ (by decide))
  have hh := rb_3 P 1 15 _ _ _ _ _ _ (.set _ 4 (.mk 1 0#64 [lE 4#64, .mk k 0#64 (icA n)]) e0 [] [] _ (by decide) (by rw [hl]; decide) (re_2 _ _ 7 1 0#64 (lE 4#64) (.mk k 0#64 (icA n)) _ _ (.ar _ _ _ (by decide) (by decide) rfl) (lo _ _ (by decide)) ho))
    (.set _ 0 (cE 77#64) e0 [] [] _ (by decide) (by rw [hl]; decide) (re_con _ _ _ _)) (.other _ 5 0 (lE 4#64) e0 [] [] _ (by decide) (by decide) (lo _ _ (by decide)))
  have e : 1 + (1 + (1 + (1 + n))) + (1 + 1 + (1 + 1)) = 8 + n := by omega
  exact e ▸ hh
theorem ic_rightP (k : Nat) (h1 : 1 ≤ k) (h2 : k ≤ 25) (n : Nat) (hn : n = 1 ∨ n = 2 ∨ n = 3) (hk : arN k = n) (a b c : BitVec 64) : RgP (icP a b c (icF k (icA n))) (fun i => if i = 0 then 19 else 8 + n) := by
  have h0 : ∀ i, i < (icP a b c (icF k (icA n))).length → i = 0 ∨ i = 1 := fun i hi => by simp [icP] at hi; omega
  have hF := ic_F1 (icP a b c (icF k (icA n))) k h1 h2 n hn hk rfl
  refine ⟨by simp [icP], by simp [icP], fun i hi => ?_, rfl, fun i hi => ?_, ?_⟩
  · rcases h0 i hi with rfl | rfl
    · exact (show (0 : Int) ≤ 0 ∧ (0 : Int) ≤ 3 ∧ (3 : Int) ≤ 24 by decide)
    · exact (show (0 : Int) ≤ 3 ∧ (3 : Int) ≤ 5 ∧ (5 : Int) ≤ 24 by decide)
  · rcases h0 i hi with rfl | rfl
    · generalize hP : icP a b c (icF k (icA n)) = P at *
      have hl : locI P 0 = 3 := by rw [← hP]; rfl
      have hb : locI P 0 < 1000 := by rw [hl]; decide
      have lo : ∀ l w, w.toNat < 3 → RE P 0 (l + 1) (lE w) 1 := fun l w h => re_loc _ _ _ _ (by rw [hl]; omega) hb
      have cl : ∀ l, RE P 0 (l + 1 + 1) (icC b) 4 := fun l => re_3 _ _ _ _ _ _ _ _ _ _ _ (.call _ _ (by decide) (by rw [← hP]; show 1 < 2; decide) (by rw [← hP]; rfl)) (lo _ _ (by decide)) (re_con _ _ _ _) (lo _ _ (by decide))
      have hh := rb_5 P 0 15 _ _ _ _ _ _ _ _ _ _ (.set _ 0 (cE a) e0 [] [] _ (by decide) (by rw [hl]; decide) (re_con _ _ _ _)) (.set _ 1 (cE c) e0 [] [] _ (by decide) (by rw [hl]; decide) (re_con _ _ _ _))
        (.set _ 2 (icC b) e0 [] [] _ (by decide) (by rw [hl]; decide) (cl _)) (.store _ 0 (cE 5#64) (lE 0#64) [] [] _ _ (re_con _ _ _ _) (lo _ _ (by decide)))
        (.other _ 5 0 (.mk 24 0#64 [lE 2#64, icC b]) e0 [] [] _ (by decide) (by decide) (re_2 _ _ _ _ _ _ _ _ _ (.ar _ _ _ (by decide) (by decide) rfl) (lo _ _ (by decide)) (cl _)))
      subst hP
      exact hh
    · exact hF
  · show 19 + ((8 + n) + 0) ≤ 6000
    omega
theorem ic_rightQ (k : Nat) (h1 : 1 ≤ k) (h2 : k ≤ 25) (n : Nat) (hn : n = 1 ∨ n = 2 ∨ n = 3) (hk : arN k = n) (a b c : BitVec 64) : RgP (icQ a b c (icF k (icA n))) (fun i => if i = 0 then 5 else 8 + n) := by
  have h0 : ∀ i, i < (icQ a b c (icF k (icA n))).length → i = 0 ∨ i = 1 := fun i hi => by simp [icQ] at hi; omega
  have hF := ic_F1 (icQ a b c (icF k (icA n))) k h1 h2 n hn hk rfl
  refine ⟨by simp [icQ], by simp [icQ], fun i hi => ?_, rfl, fun i hi => ?_, ?_⟩
  · rcases h0 i hi with rfl | rfl
    · exact (show (0 : Int) ≤ 0 ∧ (0 : Int) ≤ 0 ∧ (0 : Int) ≤ 24 by decide)
    · exact (show (0 : Int) ≤ 3 ∧ (3 : Int) ≤ 5 ∧ (5 : Int) ≤ 24 by decide)
  · rcases h0 i hi with rfl | rfl
    · generalize hP : icQ a b c (icF k (icA n)) = P at *
      have cl : ∀ l, RE P 0 (l + 1 + 1) (.mk 29 1#64 [cE a, cE b, cE c]) 4 := fun l => re_3 _ _ _ _ _ _ _ _ _ _ _ (.call _ _ (by decide) (by rw [← hP]; show 1 < 2; decide) (by rw [← hP]; rfl)) (re_con _ _ _ _) (re_con _ _ _ _) (re_con _ _ _ _)
      have hh := rb_1 P 0 15 _ _ (.other _ 5 0 (.mk 29 1#64 [cE a, cE b, cE c]) e0 [] [] _ (by decide) (by decide) (cl _))
      subst hP
      exact hh
    · exact hF
  · show 5 + ((8 + n) + 0) ≤ 6000
    omega

theorem runs_Args01 {M : Seat} (ok : OkX M) (k : Nat) (h1 : 1 ≤ k) (h2 : k ≤ 25) : Runs M 89 [.int .i64 k] [] 0 (fun r H' k' => r = tup2 (.int .i64 (arN k)) (.int .i64 0) ∧ H' = [] ∧ k' = 0) := by
  refine runs_fr ok.k89 rfl fun x hx => ?_
  have g1 : ((k : Int) < 1) = False := eq_false (by omega)
  have g2 : ((25 : Int) < (k : Int)) = False := eq_false (by omega)
  unfold arN
  rcases Classical.propComplete ((k : Int) = 8) with h8 | h8 <;> rcases Classical.propComplete ((k : Int) = 9) with h9 | h9 <;> rcases Classical.propComplete ((k : Int) = 21) with h21 | h21 <;> rcases Classical.propComplete ((k : Int) = 25) with h25 | h25
  all_goals
    simp only [h8, h9, h21, h25, or_true, true_or, or_self, if_true, if_false]
    refine ex_sound 2000 _ _ _ _ ?_; (simp (maxSteps := 4000000) only [f89, c89, g1, g2, h8, h9, h21, h25, LZ, seval, reduceCtorEq, forall_const])
    refine RetS.mk hx [] [] _ _ _ (by decide) (by (simp only [LV, tup2, LZ, seval, reduceCtorEq, forall_const])) (by ((try simp only [LV, tup2, LZ, seval, reduceCtorEq, forall_const, LY, seval, reduceCtorEq, implies_true]); first | done | exact True.intro | (intros; rfl))) (by ((try simp only [tup2, LY, seval, reduceCtorEq, implies_true]); first | done | exact True.intro | (intros; rfl))) ⟨rfl, rfl, rfl⟩

def icK (k0 : Int) : Nat := 1 + (BitVec.ofInt 64 k0 % 25#64).toNat
theorem icK_lt (k0 : Int) : 1 ≤ icK k0 ∧ icK k0 ≤ 25 := by
  have : (BitVec.ofInt 64 k0 % 25#64).toNat < 25 := urem_lt' _
  unfold icK; omega
end Mv
namespace Mv
open Go
set_option maxRecDepth 20000
set_option maxHeartbeats 4000000
set_option linter.unusedSimpArgs false

theorem icK_int (k0 : Int) : (BitVec.ofInt 64 k0 % 25#64).toInt = (((BitVec.ofInt 64 k0 % 25#64).toNat : Nat) : Int) := by
  have := urem_lt' (BitVec.ofInt 64 k0)
  rw [BitVec.toInt_eq_toNat_cond, if_pos (by omega)]
theorem icK_wrap (k0 : Int) : IntKind.i64.wrap (1 + (((BitVec.ofInt 64 k0 % 25#64).toNat : Nat) : Int)) = ((icK k0 : Nat) : Int) := by
  have := urem_lt' (BitVec.ofInt 64 k0)
  rw [wrap_i64 (by omega), icK]; omega

theorem bl5 (p : Nat → Prop) : (∀ i, i < 5 → p i) = (p 0 ∧ p 1 ∧ p 2 ∧ p 3 ∧ p 4) := propext ⟨fun h => ⟨h 0 (by omega), h 1 (by omega), h 2 (by omega), h 3 (by omega), h 4 (by omega)⟩, fun h i hi => by
  have : i = 0 ∨ i = 1 ∨ i = 2 ∨ i = 3 ∨ i = 4 := by omega
  rcases this with rfl | rfl | rfl | rfl | rfl
  · exact h.1
  · exact h.2.1
  · exact h.2.2.1
  · exact h.2.2.2.1
  · exact h.2.2.2.2⟩
theorem ic_walk1 {M : Seat} (ok : OkJ M) (okP : OkP M) (okX : OkX M) (k16 : chkF M 16 f16 = true) (k0 : Int) (a b c : BitVec 64) (hn : arN (icK k0) = 1) : Runs M 16 [.int .i64 k0, W a, W b, W c] [] 0 (fun r H' k' => r = .bool true ∧ H' = [] ∧ k' = 0) := by
  refine runs_fr k16 rfl fun x hx => ?_
  have ki := icK_int k0
  have kw := icK_wrap k0
  obtain ⟨h1, h2⟩ := icK_lt k0
  generalize icK k0 = k at *
  have hA := runs_Args01 okX k h1 h2
  rw [hn] at hA
  have hw := (apW_pad k h1 h2 a b c).1 hn
  obtain ⟨qP, hqP, p1, p2, p3⟩ := ic_runP1 k h1 h2 a b c
  obtain ⟨qQ, hqQ, q1, q2⟩ := ic_runQ1 k h1 h2 a b c
  rw [hw] at q2
  have hP := runs_eval ok apE (apE_ok okP) _ _ (ic_rightP k h1 h2 1 (by decide) hn a b c) 20 qP _ _ hqP p1
  have hQ := runs_eval ok apE (apE_ok okP) _ _ (ic_rightQ k h1 h2 1 (by decide) hn a b c) 20 qQ _ _ hqQ q1
  simp only [resJ, p2] at hP
  simp only [resJ, q2] at hQ
  generalize endS qP.s qP.v = sP at *
  generalize endS qQ.s qQ.v = sQ at *
  obtain ⟨w, hwd⟩ : ∃ w, apW k a b c = w := ⟨_, rfl⟩
  have hR := runs_Apply01 okX k h1 h2 a b c
  rw [hwd] at hR hQ
  refine ex_sound 2000 _ _ _ _ ?_; (simp (maxSteps := 4000000) only [f16, c16, ki, kw, LZ, seval, reduceCtorEq, forall_const])
  refine call_pZ (hA) ?_
  (simp (maxSteps := 4000000) only [tup2, LZ, seval, reduceCtorEq, forall_const])
  refine call_pZ (hR) ?_
  (simp (maxSteps := 4000000) only [tup2, LZ, seval, reduceCtorEq, forall_const])
  refine call_pZ (runs_local ok 0#64) ?_
  (simp (maxSteps := 4000000) only [LZ, seval, reduceCtorEq, forall_const])
  refine call_pZ (runs_local ok 1#64) ?_
  (simp (maxSteps := 4000000) only [LZ, seval, reduceCtorEq, forall_const])
  refine call_pZ (runs_local ok 2#64) ?_
  (simp (maxSteps := 4000000) only [LZ, seval, reduceCtorEq, forall_const])
  refine call_pZ (runs_local ok 4#64) ?_
  (simp (maxSteps := 4000000) only [LZ, seval, reduceCtorEq, forall_const])
  refine call_mB [432] [] (runs_op ok k 1) (by rfl) (by rfl) (by decide) (by rfl) (by rfl) (by ((try simp only [LY, seval, reduceCtorEq, implies_true]); first | done | exact True.intro | rfl)) (by ((try simp only [LY, seval, reduceCtorEq, implies_true]); first | done | exact True.intro | rfl)) (by simp only [LX, implies_true]) (by simp only [LX, implies_true]) ?_
  (simp (maxSteps := 4000000) only [LZ, seval, reduceCtorEq, forall_const])
  refine call_mB [560] [] (runs_op ok 1 2) (by rfl) (by rfl) (by decide) (by rfl) (by rfl) (by ((try simp only [LY, seval, reduceCtorEq, implies_true]); first | done | exact True.intro | rfl)) (by ((try simp only [LY, seval, reduceCtorEq, implies_true]); first | done | exact True.intro | rfl)) (by simp only [LX, implies_true]) (by simp only [LX, implies_true]) ?_
  (simp (maxSteps := 4000000) only [LZ, seval, reduceCtorEq, forall_const])
  refine call_pZ (runs_constant ok 77#64) ?_
  (simp (maxSteps := 4000000) only [LZ, seval, reduceCtorEq, forall_const])
  refine call_pZ (runs_local ok 4#64) ?_
  (simp (maxSteps := 4000000) only [LZ, seval, reduceCtorEq, forall_const])
  refine call_pZ (runs_local ok 0#64) ?_
  (simp (maxSteps := 4000000) only [LZ, seval, reduceCtorEq, forall_const])
  refine call_pZ (runs_constant ok b) ?_
  (simp (maxSteps := 4000000) only [LZ, seval, reduceCtorEq, forall_const])
  refine call_pZ (runs_local ok 1#64) ?_
  (simp (maxSteps := 4000000) only [LZ, seval, reduceCtorEq, forall_const])
  refine opd_pZ (runs_constant ok a) ?_
  (simp (maxSteps := 4000000) only [LZ, seval, reduceCtorEq, forall_const])
  refine opd_pZ (runs_constant ok c) ?_
  (simp (maxSteps := 4000000) only [LZ, seval, reduceCtorEq, forall_const])
  refine opd_pZ (runs_constant ok 5#64) ?_
  (simp (maxSteps := 4000000) only [LZ, seval, reduceCtorEq, forall_const])
  refine opd_pZ (runs_local ok 0#64) ?_
  (simp (maxSteps := 4000000) only [LZ, seval, reduceCtorEq, forall_const])
  refine opd_pZ (runs_local ok 2#64) ?_
  (simp (maxSteps := 4000000) only [LZ, seval, reduceCtorEq, forall_const])
  refine opd_mB [992] [] (runs_op ok 24 2) (by rfl) (by rfl) (by decide) (by rfl) (by rfl) (by ((try simp only [LY, seval, reduceCtorEq, implies_true]); first | done | exact True.intro | rfl)) (by ((try simp only [LY, seval, reduceCtorEq, implies_true]); first | done | exact True.intro | rfl)) (by simp only [LX, implies_true]) (by simp only [LX, implies_true]) ?_
  (simp (maxSteps := 4000000) only [Nat.zero_testBit, List.map_nil, List.map_cons, List.nil_append, LZ, seval, reduceCtorEq, forall_const])
  repeat (refine And.intro (by first | omega | exact True.intro | rfl) ?_)
  refine call_fA (hP) (by decide) (by ((try simp only [icP, icF, icA, icC, fuL, fuF, fuV, stL, stF, stV, exL, exF, exV, List.take_succ_cons, List.take_zero, List.take_nil, List.length_cons, List.length_nil, Nat.reduceAdd, Nat.zero_add, bl1, bl2, bl3, bl5, nim_memI, LY, seval, reduceCtorEq, implies_true]); first | done | exact True.intro | rfl)) (by simp only [icP, icF, icA, icC, fuL, fuF, fuV, stL, stF, stV, exL, exF, exV, List.take_succ_cons, List.take_zero, List.take_nil, List.length_cons, List.length_nil, Nat.reduceAdd, Nat.zero_add, bl1, bl2, bl3, bl5, nim_memI, LX, implies_true]) (by simp only [icP, icF, icA, icC, fuL, fuF, fuV, stL, stF, stV, exL, exF, exV, List.take_succ_cons, List.take_zero, List.take_nil, List.length_cons, List.length_nil, Nat.reduceAdd, Nat.zero_add, bl1, bl2, bl3, bl5, nim_memI, LX, implies_true]) ?_
  (simp (maxSteps := 4000000) only [tup2, ren_memI, LZ, seval, reduceCtorEq, forall_const])
  refine opd_pZ (runs_constant ok a) ?_
  (simp (maxSteps := 4000000) only [LZ, seval, reduceCtorEq, forall_const])
  refine opd_pZ (runs_constant ok b) ?_
  (simp (maxSteps := 4000000) only [LZ, seval, reduceCtorEq, forall_const])
  refine opd_pZ (runs_constant ok c) ?_
  (simp (maxSteps := 4000000) only [Nat.zero_testBit, List.map_nil, List.map_cons, List.nil_append, LZ, seval, reduceCtorEq, forall_const])
  refine opd_fA (hQ) (by decide) (by ((try simp only [icQ, icF, icA, icC, fuL, fuF, fuV, stL, stF, stV, exL, exF, exV, List.take_succ_cons, List.take_zero, List.take_nil, List.length_cons, List.length_nil, Nat.reduceAdd, Nat.zero_add, bl1, bl2, bl3, bl5, nim_memI, LY, seval, reduceCtorEq, implies_true]); first | done | exact True.intro | rfl)) (by simp only [icQ, icF, icA, icC, fuL, fuF, fuV, stL, stF, stV, exL, exF, exV, List.take_succ_cons, List.take_zero, List.take_nil, List.length_cons, List.length_nil, Nat.reduceAdd, Nat.zero_add, bl1, bl2, bl3, bl5, nim_memI, LX, implies_true]) (by simp only [icQ, icF, icA, icC, fuL, fuF, fuV, stL, stF, stV, exL, exF, exV, List.take_succ_cons, List.take_zero, List.take_nil, List.length_cons, List.length_nil, Nat.reduceAdd, Nat.zero_add, bl1, bl2, bl3, bl5, nim_memI, LX, implies_true]) ?_
  (simp (maxSteps := 4000000) only [tup2, ren_memI, Nat.zero_testBit, List.map_nil, List.map_cons, List.nil_append, LZ, seval, reduceCtorEq, forall_const])
  repeat (refine And.intro (by first | omega | exact True.intro | rfl) ?_)
  refine call_pZ (runs_fixed12 ok) ?_
  (simp (maxSteps := 4000000) only [memI, p3, LZ, seval, reduceCtorEq, forall_const])
  exact RetS.mkZ hx [] ⟨rfl, rfl, rfl⟩
theorem ic_walk2 {M : Seat} (ok : OkJ M) (okP : OkP M) (okX : OkX M) (k16 : chkF M 16 f16 = true) (k0 : Int) (a b c : BitVec 64) (hn : arN (icK k0) = 2) : Runs M 16 [.int .i64 k0, W a, W b, W c] [] 0 (fun r H' k' => r = .bool true ∧ H' = [] ∧ k' = 0) := by
  refine runs_fr k16 rfl fun x hx => ?_
  have ki := icK_int k0
  have kw := icK_wrap k0
  obtain ⟨h1, h2⟩ := icK_lt k0
  generalize icK k0 = k at *
  have hA := runs_Args01 okX k h1 h2
  rw [hn] at hA
  have hw := (apW_pad k h1 h2 a b c).2 hn
  obtain ⟨qP, hqP, p1, p2, p3⟩ := ic_runP2 k h1 h2 a b c
  obtain ⟨qQ, hqQ, q1, q2⟩ := ic_runQ2 k h1 h2 a b c
  rw [hw] at q2
  have hP := runs_eval ok apE (apE_ok okP) _ _ (ic_rightP k h1 h2 2 (by decide) hn a b c) 20 qP _ _ hqP p1
  have hQ := runs_eval ok apE (apE_ok okP) _ _ (ic_rightQ k h1 h2 2 (by decide) hn a b c) 20 qQ _ _ hqQ q1
  simp only [resJ, p2] at hP
  simp only [resJ, q2] at hQ
  generalize endS qP.s qP.v = sP at *
  generalize endS qQ.s qQ.v = sQ at *
  obtain ⟨w, hwd⟩ : ∃ w, apW k a b c = w := ⟨_, rfl⟩
  have hR := runs_Apply01 okX k h1 h2 a b c
  rw [hwd] at hR hQ
  refine ex_sound 2000 _ _ _ _ ?_; (simp (maxSteps := 4000000) only [f16, c16, ki, kw, LZ, seval, reduceCtorEq, forall_const])
  refine call_pZ (hA) ?_
  (simp (maxSteps := 4000000) only [tup2, LZ, seval, reduceCtorEq, forall_const])
  refine call_pZ (hR) ?_
  (simp (maxSteps := 4000000) only [tup2, LZ, seval, reduceCtorEq, forall_const])
  refine call_pZ (runs_local ok 0#64) ?_
  (simp (maxSteps := 4000000) only [LZ, seval, reduceCtorEq, forall_const])
  refine call_pZ (runs_local ok 1#64) ?_
  (simp (maxSteps := 4000000) only [LZ, seval, reduceCtorEq, forall_const])
  refine call_pZ (runs_local ok 2#64) ?_
  (simp (maxSteps := 4000000) only [LZ, seval, reduceCtorEq, forall_const])
  refine call_pZ (runs_local ok 4#64) ?_
  (simp (maxSteps := 4000000) only [LZ, seval, reduceCtorEq, forall_const])
  refine call_mB [432] [] (runs_op ok k 2) (by rfl) (by rfl) (by decide) (by rfl) (by rfl) (by ((try simp only [LY, seval, reduceCtorEq, implies_true]); first | done | exact True.intro | rfl)) (by ((try simp only [LY, seval, reduceCtorEq, implies_true]); first | done | exact True.intro | rfl)) (by simp only [LX, implies_true]) (by simp only [LX, implies_true]) ?_
  (simp (maxSteps := 4000000) only [LZ, seval, reduceCtorEq, forall_const])
  refine call_mB [560] [] (runs_op ok 1 2) (by rfl) (by rfl) (by decide) (by rfl) (by rfl) (by ((try simp only [LY, seval, reduceCtorEq, implies_true]); first | done | exact True.intro | rfl)) (by ((try simp only [LY, seval, reduceCtorEq, implies_true]); first | done | exact True.intro | rfl)) (by simp only [LX, implies_true]) (by simp only [LX, implies_true]) ?_
  (simp (maxSteps := 4000000) only [LZ, seval, reduceCtorEq, forall_const])
  refine call_pZ (runs_constant ok 77#64) ?_
  (simp (maxSteps := 4000000) only [LZ, seval, reduceCtorEq, forall_const])
  refine call_pZ (runs_local ok 4#64) ?_
  (simp (maxSteps := 4000000) only [LZ, seval, reduceCtorEq, forall_const])
  refine call_pZ (runs_local ok 0#64) ?_
  (simp (maxSteps := 4000000) only [LZ, seval, reduceCtorEq, forall_const])
  refine call_pZ (runs_constant ok b) ?_
  (simp (maxSteps := 4000000) only [LZ, seval, reduceCtorEq, forall_const])
  refine call_pZ (runs_local ok 1#64) ?_
  (simp (maxSteps := 4000000) only [LZ, seval, reduceCtorEq, forall_const])
  refine opd_pZ (runs_constant ok a) ?_
  (simp (maxSteps := 4000000) only [LZ, seval, reduceCtorEq, forall_const])
  refine opd_pZ (runs_constant ok c) ?_
  (simp (maxSteps := 4000000) only [LZ, seval, reduceCtorEq, forall_const])
  refine opd_pZ (runs_constant ok 5#64) ?_
  (simp (maxSteps := 4000000) only [LZ, seval, reduceCtorEq, forall_const])
  refine opd_pZ (runs_local ok 0#64) ?_
  (simp (maxSteps := 4000000) only [LZ, seval, reduceCtorEq, forall_const])
  refine opd_pZ (runs_local ok 2#64) ?_
  (simp (maxSteps := 4000000) only [LZ, seval, reduceCtorEq, forall_const])
  refine opd_mB [992] [] (runs_op ok 24 2) (by rfl) (by rfl) (by decide) (by rfl) (by rfl) (by ((try simp only [LY, seval, reduceCtorEq, implies_true]); first | done | exact True.intro | rfl)) (by ((try simp only [LY, seval, reduceCtorEq, implies_true]); first | done | exact True.intro | rfl)) (by simp only [LX, implies_true]) (by simp only [LX, implies_true]) ?_
  (simp (maxSteps := 4000000) only [Nat.zero_testBit, List.map_nil, List.map_cons, List.nil_append, LZ, seval, reduceCtorEq, forall_const])
  repeat (refine And.intro (by first | omega | exact True.intro | rfl) ?_)
  refine call_fA (hP) (by decide) (by ((try simp only [icP, icF, icA, icC, fuL, fuF, fuV, stL, stF, stV, exL, exF, exV, List.take_succ_cons, List.take_zero, List.take_nil, List.length_cons, List.length_nil, Nat.reduceAdd, Nat.zero_add, bl1, bl2, bl3, bl5, nim_memI, LY, seval, reduceCtorEq, implies_true]); first | done | exact True.intro | rfl)) (by simp only [icP, icF, icA, icC, fuL, fuF, fuV, stL, stF, stV, exL, exF, exV, List.take_succ_cons, List.take_zero, List.take_nil, List.length_cons, List.length_nil, Nat.reduceAdd, Nat.zero_add, bl1, bl2, bl3, bl5, nim_memI, LX, implies_true]) (by simp only [icP, icF, icA, icC, fuL, fuF, fuV, stL, stF, stV, exL, exF, exV, List.take_succ_cons, List.take_zero, List.take_nil, List.length_cons, List.length_nil, Nat.reduceAdd, Nat.zero_add, bl1, bl2, bl3, bl5, nim_memI, LX, implies_true]) ?_
  (simp (maxSteps := 4000000) only [tup2, ren_memI, LZ, seval, reduceCtorEq, forall_const])
  refine opd_pZ (runs_constant ok a) ?_
  (simp (maxSteps := 4000000) only [LZ, seval, reduceCtorEq, forall_const])
  refine opd_pZ (runs_constant ok b) ?_
  (simp (maxSteps := 4000000) only [LZ, seval, reduceCtorEq, forall_const])
  refine opd_pZ (runs_constant ok c) ?_
  (simp (maxSteps := 4000000) only [Nat.zero_testBit, List.map_nil, List.map_cons, List.nil_append, LZ, seval, reduceCtorEq, forall_const])
  refine opd_fA (hQ) (by decide) (by ((try simp only [icQ, icF, icA, icC, fuL, fuF, fuV, stL, stF, stV, exL, exF, exV, List.take_succ_cons, List.take_zero, List.take_nil, List.length_cons, List.length_nil, Nat.reduceAdd, Nat.zero_add, bl1, bl2, bl3, bl5, nim_memI, LY, seval, reduceCtorEq, implies_true]); first | done | exact True.intro | rfl)) (by simp only [icQ, icF, icA, icC, fuL, fuF, fuV, stL, stF, stV, exL, exF, exV, List.take_succ_cons, List.take_zero, List.take_nil, List.length_cons, List.length_nil, Nat.reduceAdd, Nat.zero_add, bl1, bl2, bl3, bl5, nim_memI, LX, implies_true]) (by simp only [icQ, icF, icA, icC, fuL, fuF, fuV, stL, stF, stV, exL, exF, exV, List.take_succ_cons, List.take_zero, List.take_nil, List.length_cons, List.length_nil, Nat.reduceAdd, Nat.zero_add, bl1, bl2, bl3, bl5, nim_memI, LX, implies_true]) ?_
  (simp (maxSteps := 4000000) only [tup2, ren_memI, Nat.zero_testBit, List.map_nil, List.map_cons, List.nil_append, LZ, seval, reduceCtorEq, forall_const])
  repeat (refine And.intro (by first | omega | exact True.intro | rfl) ?_)
  refine call_pZ (runs_fixed12 ok) ?_
  (simp (maxSteps := 4000000) only [memI, p3, LZ, seval, reduceCtorEq, forall_const])
  exact RetS.mkZ hx [] ⟨rfl, rfl, rfl⟩
theorem ic_walk3 {M : Seat} (ok : OkJ M) (okP : OkP M) (okX : OkX M) (k16 : chkF M 16 f16 = true) (k0 : Int) (a b c : BitVec 64) (hn : arN (icK k0) = 3) : Runs M 16 [.int .i64 k0, W a, W b, W c] [] 0 (fun r H' k' => r = .bool true ∧ H' = [] ∧ k' = 0) := by
  refine runs_fr k16 rfl fun x hx => ?_
  have ki := icK_int k0
  have kw := icK_wrap k0
  obtain ⟨h1, h2⟩ := icK_lt k0
  generalize icK k0 = k at *
  have hA := runs_Args01 okX k h1 h2
  rw [hn] at hA
  have hw : apW k a b c = apW k a b c := rfl
  obtain ⟨qP, hqP, p1, p2, p3⟩ := ic_runP3 k h1 h2 a b c
  obtain ⟨qQ, hqQ, q1, q2⟩ := ic_runQ3 k h1 h2 a b c
  rw [hw] at q2
  have hP := runs_eval ok apE (apE_ok okP) _ _ (ic_rightP k h1 h2 3 (by decide) hn a b c) 20 qP _ _ hqP p1
  have hQ := runs_eval ok apE (apE_ok okP) _ _ (ic_rightQ k h1 h2 3 (by decide) hn a b c) 20 qQ _ _ hqQ q1
  simp only [resJ, p2] at hP
  simp only [resJ, q2] at hQ
  generalize endS qP.s qP.v = sP at *
  generalize endS qQ.s qQ.v = sQ at *
  obtain ⟨w, hwd⟩ : ∃ w, apW k a b c = w := ⟨_, rfl⟩
  have hR := runs_Apply01 okX k h1 h2 a b c
  rw [hwd] at hR hQ
  refine ex_sound 2000 _ _ _ _ ?_; (simp (maxSteps := 4000000) only [f16, c16, ki, kw, LZ, seval, reduceCtorEq, forall_const])
  refine call_pZ (hA) ?_
  (simp (maxSteps := 4000000) only [tup2, LZ, seval, reduceCtorEq, forall_const])
  refine call_pZ (hR) ?_
  (simp (maxSteps := 4000000) only [tup2, LZ, seval, reduceCtorEq, forall_const])
  refine call_pZ (runs_local ok 0#64) ?_
  (simp (maxSteps := 4000000) only [LZ, seval, reduceCtorEq, forall_const])
  refine call_pZ (runs_local ok 1#64) ?_
  (simp (maxSteps := 4000000) only [LZ, seval, reduceCtorEq, forall_const])
  refine call_pZ (runs_local ok 2#64) ?_
  (simp (maxSteps := 4000000) only [LZ, seval, reduceCtorEq, forall_const])
  refine call_pZ (runs_local ok 4#64) ?_
  (simp (maxSteps := 4000000) only [LZ, seval, reduceCtorEq, forall_const])
  refine call_mB [432] [] (runs_op ok k 3) (by rfl) (by rfl) (by decide) (by rfl) (by rfl) (by ((try simp only [LY, seval, reduceCtorEq, implies_true]); first | done | exact True.intro | rfl)) (by ((try simp only [LY, seval, reduceCtorEq, implies_true]); first | done | exact True.intro | rfl)) (by simp only [LX, implies_true]) (by simp only [LX, implies_true]) ?_
  (simp (maxSteps := 4000000) only [LZ, seval, reduceCtorEq, forall_const])
  refine call_mB [560] [] (runs_op ok 1 2) (by rfl) (by rfl) (by decide) (by rfl) (by rfl) (by ((try simp only [LY, seval, reduceCtorEq, implies_true]); first | done | exact True.intro | rfl)) (by ((try simp only [LY, seval, reduceCtorEq, implies_true]); first | done | exact True.intro | rfl)) (by simp only [LX, implies_true]) (by simp only [LX, implies_true]) ?_
  (simp (maxSteps := 4000000) only [LZ, seval, reduceCtorEq, forall_const])
  refine call_pZ (runs_constant ok 77#64) ?_
  (simp (maxSteps := 4000000) only [LZ, seval, reduceCtorEq, forall_const])
  refine call_pZ (runs_local ok 4#64) ?_
  (simp (maxSteps := 4000000) only [LZ, seval, reduceCtorEq, forall_const])
  refine call_pZ (runs_local ok 0#64) ?_
  (simp (maxSteps := 4000000) only [LZ, seval, reduceCtorEq, forall_const])
  refine call_pZ (runs_constant ok b) ?_
  (simp (maxSteps := 4000000) only [LZ, seval, reduceCtorEq, forall_const])
  refine call_pZ (runs_local ok 1#64) ?_
  (simp (maxSteps := 4000000) only [LZ, seval, reduceCtorEq, forall_const])
  refine opd_pZ (runs_constant ok a) ?_
  (simp (maxSteps := 4000000) only [LZ, seval, reduceCtorEq, forall_const])
  refine opd_pZ (runs_constant ok c) ?_
  (simp (maxSteps := 4000000) only [LZ, seval, reduceCtorEq, forall_const])
  refine opd_pZ (runs_constant ok 5#64) ?_
  (simp (maxSteps := 4000000) only [LZ, seval, reduceCtorEq, forall_const])
  refine opd_pZ (runs_local ok 0#64) ?_
  (simp (maxSteps := 4000000) only [LZ, seval, reduceCtorEq, forall_const])
  refine opd_pZ (runs_local ok 2#64) ?_
  (simp (maxSteps := 4000000) only [LZ, seval, reduceCtorEq, forall_const])
  refine opd_mB [992] [] (runs_op ok 24 2) (by rfl) (by rfl) (by decide) (by rfl) (by rfl) (by ((try simp only [LY, seval, reduceCtorEq, implies_true]); first | done | exact True.intro | rfl)) (by ((try simp only [LY, seval, reduceCtorEq, implies_true]); first | done | exact True.intro | rfl)) (by simp only [LX, implies_true]) (by simp only [LX, implies_true]) ?_
  (simp (maxSteps := 4000000) only [Nat.zero_testBit, List.map_nil, List.map_cons, List.nil_append, LZ, seval, reduceCtorEq, forall_const])
  repeat (refine And.intro (by first | omega | exact True.intro | rfl) ?_)
  refine call_fA (hP) (by decide) (by ((try simp only [icP, icF, icA, icC, fuL, fuF, fuV, stL, stF, stV, exL, exF, exV, List.take_succ_cons, List.take_zero, List.take_nil, List.length_cons, List.length_nil, Nat.reduceAdd, Nat.zero_add, bl1, bl2, bl3, bl5, nim_memI, LY, seval, reduceCtorEq, implies_true]); first | done | exact True.intro | rfl)) (by simp only [icP, icF, icA, icC, fuL, fuF, fuV, stL, stF, stV, exL, exF, exV, List.take_succ_cons, List.take_zero, List.take_nil, List.length_cons, List.length_nil, Nat.reduceAdd, Nat.zero_add, bl1, bl2, bl3, bl5, nim_memI, LX, implies_true]) (by simp only [icP, icF, icA, icC, fuL, fuF, fuV, stL, stF, stV, exL, exF, exV, List.take_succ_cons, List.take_zero, List.take_nil, List.length_cons, List.length_nil, Nat.reduceAdd, Nat.zero_add, bl1, bl2, bl3, bl5, nim_memI, LX, implies_true]) ?_
  (simp (maxSteps := 4000000) only [tup2, ren_memI, LZ, seval, reduceCtorEq, forall_const])
  refine opd_pZ (runs_constant ok a) ?_
  (simp (maxSteps := 4000000) only [LZ, seval, reduceCtorEq, forall_const])
  refine opd_pZ (runs_constant ok b) ?_
  (simp (maxSteps := 4000000) only [LZ, seval, reduceCtorEq, forall_const])
  refine opd_pZ (runs_constant ok c) ?_
  (simp (maxSteps := 4000000) only [Nat.zero_testBit, List.map_nil, List.map_cons, List.nil_append, LZ, seval, reduceCtorEq, forall_const])
  refine opd_fA (hQ) (by decide) (by ((try simp only [icQ, icF, icA, icC, fuL, fuF, fuV, stL, stF, stV, exL, exF, exV, List.take_succ_cons, List.take_zero, List.take_nil, List.length_cons, List.length_nil, Nat.reduceAdd, Nat.zero_add, bl1, bl2, bl3, bl5, nim_memI, LY, seval, reduceCtorEq, implies_true]); first | done | exact True.intro | rfl)) (by simp only [icQ, icF, icA, icC, fuL, fuF, fuV, stL, stF, stV, exL, exF, exV, List.take_succ_cons, List.take_zero, List.take_nil, List.length_cons, List.length_nil, Nat.reduceAdd, Nat.zero_add, bl1, bl2, bl3, bl5, nim_memI, LX, implies_true]) (by simp only [icQ, icF, icA, icC, fuL, fuF, fuV, stL, stF, stV, exL, exF, exV, List.take_succ_cons, List.take_zero, List.take_nil, List.length_cons, List.length_nil, Nat.reduceAdd, Nat.zero_add, bl1, bl2, bl3, bl5, nim_memI, LX, implies_true]) ?_
  (simp (maxSteps := 4000000) only [tup2, ren_memI, Nat.zero_testBit, List.map_nil, List.map_cons, List.nil_append, LZ, seval, reduceCtorEq, forall_const])
  repeat (refine And.intro (by first | omega | exact True.intro | rfl) ?_)
  refine call_pZ (runs_fixed12 ok) ?_
  (simp (maxSteps := 4000000) only [memI, p3, LZ, seval, reduceCtorEq, forall_const])
  exact RetS.mkZ hx [] ⟨rfl, rfl, rfl⟩
theorem runs_IrCalls {M : Seat} (ok : OkJ M) (okP : OkP M) (okX : OkX M) (k16 : chkF M 16 f16 = true) (k0 : Int) (a b c : BitVec 64) : Runs M 16 [.int .i64 k0, W a, W b, W c] [] 0 (fun r H' k' => r = .bool true ∧ H' = [] ∧ k' = 0) := by
  have h : arN (icK k0) = 1 ∨ arN (icK k0) = 2 ∨ arN (icK k0) = 3 := by
    unfold arN
    split
    · exact .inr (.inr rfl)
    · split
      · exact .inl rfl
      · exact .inr (.inl rfl)
  rcases h with h | h | h
  · exact ic_walk1 ok okP okX k16 k0 a b c h
  · exact ic_walk2 ok okP okX k16 k0 a b c h
  · exact ic_walk3 ok okP okX k16 k0 a b c h
end Mv
