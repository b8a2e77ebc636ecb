/- Small functions about stores and bytes. -/
import Derived.Test.YtfoaeafobdamcaaDoorW1
import Derived.Test.YtfoaeafobdamcaaDoorW4
set_option linter.unusedSimpArgs false
set_option linter.unusedVariables false
namespace Mv
open Go
set_option maxRecDepth 20000
set_option maxHeartbeats 4000000
set_option linter.unusedSimpArgs false

structure OkO (M : Seat) : Prop extends OkW M where
  k72 : chkF M 72 f72 = true
  k308 : chkF M 308 f308 = true
  k327 : chkF M 327 f327 = true
  k326 : chkF M 326 f326 = true
  k217 : chkF M 217 f217 = true

theorem runs_within {M : Seat} (ok : OkO M) (a b : BitVec 64) : Runs M 326 [W a, W b] [] 0 (fun r H' k' => r = .bool (decide (a ≤ 8192#64) && decide (b ≤ 8192#64 - a)) ∧ H' = [] ∧ k' = 0) := by
  refine runs_fr ok.k326 rfl fun x hx => ?_
  rcases Classical.propComplete (a ≤ 8192#64) with h | h
  all_goals refine ex_sound 2000 _ _ _ _ ?_; (simp (maxSteps := 4000000) only [f326, c326, h, LZ, seval, reduceCtorEq, forall_const])
  all_goals try simp only [h, decide_true, decide_false, Bool.true_and, Bool.false_and]
  all_goals exact RetS.mkZ hx [] ⟨rfl, rfl, rfl⟩

/-- A word of eight bytes. -/
def wrd (p : Nat → BitVec 8) : Nat → BitVec 64
  | 0 => 0
  | k + 1 => (wrd p k <<< (8#64).toNat) ||| (p k).setWidth 64

theorem runs_Word {M : Seat} (ok : OkO M) (n : Nat) (hn : 8 ≤ n) (p : Nat → BitVec 8) : Runs M 308 [.lst 1 n (fun j => B (p j))] [] 0 (fun r H' k' => r = W (wrd p 8) ∧ H' = [] ∧ k' = 0) := by
  refine runs_fr ok.k308 rfl fun x hx => ?_
  refine ex_sound 2000 _ _ _ _ ?_; (simp (maxSteps := 4000000) only [f308, c308, LM, LZ, seval, reduceCtorEq, forall_const])
  repeat (refine And.intro (by first | omega | exact True.intro | rfl) ?_)
  refine loop_rule (σ := Nat) (fun i => i ≤ 8) (fun i => fr 20 [(7, .lst 1 8 fun j => B (p j)), (8, .int .i64 8), (9, .int .i64 i), (3, W (wrd p i))]) (fun _ => []) (fun _ => 0) (fun i => 8 - i) 0 (by omega) ?_ ?_
  · refine Weak.fr [] [] hx (by simp only [fr_length]) (by decide) ?_ ?_
    · simp only [wrd, LY, seval, reduceCtorEq, implies_true]
    · trivial
  · intro i hi
    refine ex_sound 2000 _ _ _ _ ?_
    by_cases h8 : i = 8
    · subst h8
      (simp (maxSteps := 4000000) only [LZ, seval, reduceCtorEq, forall_const])
      exact RetS.mkZ hx [] ⟨rfl, rfl, rfl⟩
    · have d0 : ((i : Int) < 8) = True := eq_true (by omega)
      have w0 : IntKind.i64.wrap ((i : Int) + 1) = ((i + 1 : Nat) : Int) := by rw [wrap_i64 (by omega)]; omega
      (simp (maxSteps := 4000000) only [d0, w0, LZ, seval, reduceCtorEq, forall_const])
      repeat (refine And.intro (by first | omega | exact True.intro | rfl) ?_)
      refine ⟨i + 1, by omega, by omega, ?_⟩
      refine Weak.fr [] [] hx (by simp only [fr_length]) (by decide) ?_ ?_
      · simp only [wrd, LY, seval, reduceCtorEq, implies_true]
      · trivial

/-- A word's bytes behind others. -/
def byW (w : BitVec 64) (j : Nat) : BitVec 8 := (w >>> (56 - 8 * j)).setWidth 8
theorem runs_PutB {M : Seat} (hc : chkF M 312 f312 = true) (w : BitVec 64) :
    Runs M 312 [.sl 0 [] 0 8 1, W w] [(0, .ar 1 8 fun _ => B 0#8)] 1 (fun r H' k' => r = .tup .fnil ∧ H' = [(0, .ar 1 8 fun j => B (if j < 8 then byW w j else 0#8))] ∧ k' = 1) := by
  have h := runs_Put hc 8 0 8 (fun _ => 0) (w.toNat : Int) (by omega) (by omega) (by omega)
  have e : (fun j => V.int .u8 (if 0 ≤ j ∧ j < 0 + 8 then byt (w.toNat : Int) (j - 0) else 0)) = (fun j => B (if j < 8 then byW w j else 0#8)) := by
    funext j
    by_cases hj : j < 8
    · rw [if_pos hj, if_pos (by omega)]; exact byt_B w j
    · rw [if_neg hj, if_neg (by omega)]; rfl
  rw [e] at h
  exact h

theorem runs_AddBN {M : Seat} (okA : OkA M) (ok : OkO M) (w : BitVec 64) :
    Runs M 327 [.nils, W w] [] 0 (fun r H' k' => r = .sl 0 [] 0 8 1 ∧ H' = [(0, .ar 1 8 fun j => B (byW w j))] ∧ k' = 1) := by
  refine runs_fr ok.k327 rfl fun x hx => ?_
  refine ex_sound 2000 _ _ _ _ ?_; (simp (maxSteps := 4000000) only [f327, c327, LM, LZ, seval, reduceCtorEq, forall_const])
  repeat (refine And.intro (by first | omega | exact True.intro | rfl) ?_)
  refine call_mZ [16] (runs_PutB okA.k312 w) ?_
  (simp (maxSteps := 4000000) only [LZ, seval, reduceCtorEq, forall_const])
  repeat (refine And.intro (by first | omega | exact True.intro | rfl) ?_)
  refine RetS.mk hx [112] [] (.sl 0 [] 0 8 1) ([(0, .ar 1 8 fun j => B (byW w j))]) 1 (by decide) (by (simp only [LV, LZ, seval, reduceCtorEq, forall_const])) (by ((try simp only [LV, LZ, seval, reduceCtorEq, forall_const, LY, seval, reduceCtorEq, implies_true]); first | done | exact True.intro | (intros; rfl))) ?_ ⟨rfl, rfl, rfl⟩
  simp only [LY, seval, reduceCtorEq, implies_true]
  intro i hi
  rw [if_pos hi]

theorem runs_AddBS {M : Seat} (okA : OkA M) (ok : OkO M) (n : Nat) (hn : n ≤ 64) (p : Nat → BitVec 8) (w : BitVec 64) :
    Runs M 327 [.sl 0 [] 0 n 1, W w] [(0, .ar 1 n (fun j => B (p j)))] 1 (fun r H' k' => r = .sl 1 [] 0 (n + 8) 1 ∧ H' = [(1, .ar 1 (n + 8) fun j => B (if j < n then p j else byW w (j - n)))] ∧ k' = 2) := by
  refine runs_fr ok.k327 rfl fun x hx => ?_
  refine ex_sound 2000 _ _ _ _ ?_; (simp (maxSteps := 4000000) only [f327, c327, LM, LZ, seval, reduceCtorEq, forall_const])
  repeat (refine And.intro (by first | omega | exact True.intro | rfl) ?_)
  refine call_mZ [17] (runs_PutB okA.k312 w) ?_
  (simp (maxSteps := 4000000) only [LZ, seval, reduceCtorEq, forall_const])
  repeat (refine And.intro (by first | omega | exact True.intro | rfl) ?_)
  refine RetS.mk hx [0, 113] [] (.sl 1 [] 0 (n + 8) 1) ([(1, .ar 1 (n + 8) fun j => B (if j < n then p j else byW w (j - n)))]) 2 (by decide) (by (simp only [LV, LZ, seval, reduceCtorEq, forall_const])) (by ((try simp only [LV, LZ, seval, reduceCtorEq, forall_const, LY, seval, reduceCtorEq, implies_true]); first | done | exact True.intro | (intros; rfl))) ?_ ⟨rfl, rfl, rfl⟩
  simp only [LY, seval, reduceCtorEq, implies_true]
  intro i hi
  by_cases h : i < n
  · rw [if_pos h, if_pos h]; simp only [B, LY, seval, reduceCtorEq, implies_true]
  · rw [if_neg h, if_neg h, if_pos (by omega)]; simp only [B, LY, seval, reduceCtorEq, implies_true]
end Mv
namespace Mv
open Go
set_option maxRecDepth 20000
set_option maxHeartbeats 4000000
set_option linter.unusedSimpArgs false

/-- The bytes of words. -/
def byWs (f : Nat → BitVec 64) (j : Nat) : BitVec 8 := byW (f (j / 8)) (j % 8)

theorem runs_oracleH {M : Seat} (okA : OkA M) (ok : OkO M) (w : WS) (l : List (Dg × Bool)) (f g : Nat → BitVec 64) (pc xt : BitVec 64) (a b : BitVec 64) (ha : a.toNat + 8 ≤ 8192) (hb : b.toNat + 4 ≤ 8192) :
    Runs M 217 [.ptr 5 [], .ptr 0 [], .int .i64 34, W a, W b] (stoH' w .nils l ++ [(5, mach f g pc false xt)]) 6
      (fun r H' k' => r = .bool true ∧ H' = stoH' (w.add (Pr.mk' (byWs fun j => f (a.toNat + j)))) .nils l ++ [(5, mach (fun j => if b.toNat ≤ j ∧ j < b.toNat + 4 then wrd (fun i => (sum64 (Pr.mk' (byWs fun j => f (a.toNat + j))).at).at (8 * (j - b.toNat) + i)) 8 else f j) g pc false xt)] ∧ k' = 6) := by
  refine runs_fr ok.k217 rfl fun x hx => ?_
  have h1 : (decide (a ≤ 8192#64) && decide (8#64 ≤ 8192#64 - a)) = true := by
    have : a.toNat ≤ 8192 := by omega
    simp only [BitVec.le_def, Bool.and_eq_true, decide_eq_true_eq, BitVec.toNat_sub, BitVec.toNat_ofNat]; omega
  have h2 : (decide (b ≤ 8192#64) && decide (4#64 ≤ 8192#64 - b)) = true := by
    have : b.toNat ≤ 8192 := by omega
    simp only [BitVec.le_def, Bool.and_eq_true, decide_eq_true_eq, BitVec.toNat_sub, BitVec.toNat_ofNat]; omega
  refine ex_sound 2000 _ _ _ _ ?_; (simp (maxSteps := 4000000) only [f217, c217, mach, stoH', stoV, kinV, List.cons_append, List.nil_append, LM, LZ, seval, reduceCtorEq, forall_const])
  refine call_pZ (runs_within ok a 8#64) ?_
  (simp (maxSteps := 4000000) only [h1, LZ, seval, reduceCtorEq, forall_const])
  refine call_pZ (runs_within ok b 4#64) ?_
  (simp (maxSteps := 4000000) only [h2, LZ, seval, reduceCtorEq, forall_const])
  have e8 : (a + 8#64).toNat = a.toNat + 8 := by rw [BitVec.toNat_add, BitVec.toNat_ofNat, Nat.mod_eq_of_lt (a := 8) (by omega), Nat.mod_eq_of_lt (by omega)]
  rw [e8, Nat.add_sub_cancel_left]
  repeat (refine And.intro (by first | omega | exact True.intro | rfl) ?_)
  refine loop_once ?_
  refine ex_sound 2000 _ _ _ _ ?_
  (simp (maxSteps := 4000000) only [LM, LZ, seval, reduceCtorEq, forall_const])
  repeat (refine And.intro (by first | omega | exact True.intro | rfl) ?_)
  refine call_fZ (runs_AddBN okA ok (f (a.toNat + 0))) ?_
  (simp (maxSteps := 4000000) only [LM, LZ, seval, reduceCtorEq, forall_const])
  repeat (refine And.intro (by first | omega | exact True.intro | rfl) ?_)
  have w1 : IntKind.i64.wrap 1 = 1 := by decide
  rw [w1]
  refine loop_rule (σ := Nat) (fun i => 1 ≤ i ∧ i ≤ 8) (fun i => fr 94 [(0, .ptr 5 []), (1, .ptr 0 []), (2, .int .i64 34), (4, W b), (12, W 4#64), (13, .sl 6 [] 0 (8 * i) 1), (43, .sl 5 [Stp.f 0] a.toNat 8 1), (44, .int .i64 8), (45, .int .i64 i)])
    (fun i => stoH' w .nils l ++ [(5, mach f g pc false xt), (6, .ar 1 (8 * i) fun j => B (byWs (fun j => f (a.toNat + j)) j))]) (fun _ => 7) (fun i => 8 - i) 1 (by omega) ?_ ?_
  · refine Weak.fr [0, 1, 2, 3, 4, 5, 518] [] hx (by simp only [fr_length]) (by decide) ?_ ?_
    · simp only [LY, seval, reduceCtorEq, implies_true]
    · simp only [stoH', stoV, kinV, mach, Sim_seen, List.cons_append, List.nil_append, LMS, LY, seval, reduceCtorEq, implies_true]
      intro i hi
      have q1 : i / 8 = 0 := by omega
      have q2 : i % 8 = i := by omega
      simp only [byWs, q1, q2, Nat.add_zero]
  · rintro i ⟨hi1, hi⟩
    refine ex_sound 2000 _ _ _ _ ?_
    by_cases h8 : i = 8
    · subst h8
      (simp (maxSteps := 4000000) only [LM, stoH', stoV, kinV, mach, List.cons_append, List.nil_append, LZ, seval, reduceCtorEq, forall_const])
      repeat (refine And.intro (by first | omega | exact True.intro | rfl) ?_)
      have hP : ∀ j, j < 64 → (Pr.mk' (byWs fun j => f (a.toNat + j))).at j = byWs (fun j => f (a.toNat + j)) j := fun j hj => Pr.at_mk' _ _ hj
      generalize Pr.mk' (byWs fun j => f (a.toNat + j)) = P at *
      have hA : Runs M 212 [.ptr 0 [], prV P] _ _ _ := runs_AddN okA ok.toOkS w P
      generalize hw' : w.add P = w' at *
      clear hw'
      generalize sum64 P.at = D at *
      refine call_mB [0, 1, 2, 3, 4] [0, 1, 2, 3] (hA) (by rfl) (by rfl) (by decide) (by rfl) (by rfl) (by ((try simp only [stoH, stoV, kinV, prV, LMS, LY, seval, reduceCtorEq, implies_true]); first | done | exact True.intro | rfl | (exact fun j hj => (hP j hj).symm))) (by ((try simp only [stoH, stoV, kinV, prV, LMS, LY, seval, reduceCtorEq, implies_true]); first | done | exact True.intro | rfl | (exact fun j hj => (hP j hj).symm))) (by simp only [stoH, stoV, kinV, prV, LMS, LX, implies_true]) (by simp only [stoH, stoV, kinV, prV, LMS, LX, implies_true]) ?_
      (simp (maxSteps := 4000000) only [LM, stoH, stoV, kinV, ren_seen, tup2, LZ, seval, reduceCtorEq, forall_const])
      refine loop_rule (σ := Nat) (fun i => i ≤ 4) (fun i => fr 94 [(0, .ptr 5 []), (4, W b), (16, .sl 7 [] 0 32 1), (77, W 4#64), (78, W (BitVec.ofNat 64 i))])
        (fun i => stoH' w' .nils l ++ [(5, mach (fun j => if b.toNat ≤ j ∧ j < b.toNat + i then wrd (fun i => D.at (8 * (j - b.toNat) + i)) 8 else f j) g pc false xt), (7, dg D)]) (fun _ => 8) (fun i => 4 - i) 0 (by omega) ?_ ?_
      · refine Weak.fr [0, 1, 2, 3, 4, 5, 6, 199] [] hx (by simp only [fr_length]) (by decide) ?_ ?_
        · simp only [LY, seval, reduceCtorEq, implies_true]
        · simp only [stoH', stoV, kinV, mach, Sim_seen, List.cons_append, List.nil_append, LMS, LY, seval, reduceCtorEq, implies_true]
          exact fun i _ => (if_neg (by omega)).symm
      · intro i hi
        refine ex_sound 2000 _ _ _ _ ?_
        by_cases h4 : i = 4
        · subst h4
          (simp (maxSteps := 4000000) only [LM, stoH', stoV, kinV, mach, List.cons_append, List.nil_append, LZ, seval, reduceCtorEq, forall_const])
          refine RetS.mk hx [0, 1, 2, 3, 4, 5] [] _ _ _ (by decide) (by (simp only [LV, Sim_seen, LMS, LZ, seval, reduceCtorEq, forall_const])) (by ((try simp only [LV, Sim_seen, LMS, LZ, seval, reduceCtorEq, forall_const, LY, seval, reduceCtorEq, implies_true]); first | done | exact True.intro | (intros; rfl))) (by ((try simp only [Sim_seen, LMS, LY, seval, reduceCtorEq, implies_true]); first | done | exact True.intro | (intros; rfl))) ⟨rfl, rfl, rfl⟩
        · have t1 : (BitVec.ofNat 64 i).toNat = i := by rw [BitVec.toNat_ofNat, Nat.mod_eq_of_lt (by omega)]
          have d0 : (BitVec.ofNat 64 i < 4#64) = True := eq_true (by rw [BitVec.lt_def, t1]; show i < 4; omega)
          have t2 : (8#64 * BitVec.ofNat 64 i).toNat = 8 * i := by rw [BitVec.toNat_mul, t1]; show 8 * i % _ = _; omega
          have t3 : (b + BitVec.ofNat 64 i).toNat = b.toNat + i := by rw [BitVec.toNat_add, t1]; omega
          have t4 : BitVec.ofNat 64 i + 1#64 = BitVec.ofNat 64 (i + 1) := by apply BitVec.eq_of_toNat_eq; rw [BitVec.toNat_add, t1, BitVec.toNat_ofNat, BitVec.toNat_ofNat]
          (simp (maxSteps := 4000000) only [d0, t2, t3, t4, LM, stoH', stoV, kinV, mach, List.cons_append, List.nil_append, LZ, seval, reduceCtorEq, forall_const])
          repeat (refine And.intro (by first | omega | exact True.intro | rfl) ?_)
          refine opd_pA (runs_Word ok (32 - 8 * i) (by omega) (fun j => D.at (8 * i + j))) (by ((try simp only [dg, LMS, LY, seval, reduceCtorEq, implies_true]); first | done | exact True.intro | rfl | ((show 8 * i + (32 - 8 * i) ≤ 32; omega)))) (by first | rfl | (simp only [LN, LP, V.ren, tup2, tup3])) (by simp only [dg, LMS, LX, implies_true]) ?_
          (simp (maxSteps := 4000000) only [t2, t3, t4, LM, LZ, seval, reduceCtorEq, forall_const])
          repeat (refine And.intro (by first | omega | exact True.intro | rfl) ?_)
          refine ⟨i + 1, by omega, by omega, ?_⟩
          refine Weak.fr [0, 1, 2, 3, 4, 5, 6, 7] [] hx (by simp only [fr_length]) (by decide) ?_ ?_
          · simp only [LY, seval, reduceCtorEq, implies_true]
          · simp only [Sim_seen, LMS, LY, seval, reduceCtorEq, implies_true]
            intro q hq
            by_cases e : q = b.toNat + i
            · subst e
              rw [if_pos rfl, if_pos (by omega), Nat.add_sub_cancel_left]; simp only [W, LY, seval, reduceCtorEq, implies_true]
            · rw [if_neg e]
              by_cases e2 : b.toNat ≤ q ∧ q < b.toNat + i
              · rw [if_pos (by omega), if_pos e2]; simp only [W, LY, seval, reduceCtorEq, implies_true]
              · rw [if_neg (by omega), if_neg e2]; simp only [W, LY, seval, reduceCtorEq, implies_true]
    · have d0 : ((i : Int) < 8) = True := eq_true (by omega)
      have w0 : IntKind.i64.wrap ((i : Int) + 1) = ((i + 1 : Nat) : Int) := by rw [wrap_i64 (by omega)]; omega
      have n0 : (0 : Int) ≤ (i : Int) := by omega
      (simp (maxSteps := 4000000) only [d0, w0, LM, stoH', stoV, kinV, mach, List.cons_append, List.nil_append, LZ, seval, reduceCtorEq, forall_const])
      repeat (refine And.intro (by first | omega | exact True.intro | rfl) ?_)
      refine call_mA [6] (runs_AddBS okA ok (8 * i) (by omega) (byWs fun j => f (a.toNat + j)) (f (a.toNat + i))) (by decide) (by rfl) (by ((try simp only [LMS, LY, seval, reduceCtorEq, implies_true]); first | done | exact True.intro | rfl)) (by ((try simp only [LMS, LY, seval, reduceCtorEq, implies_true]); first | done | exact True.intro | rfl)) (by simp only [LMS, LX, implies_true]) (by simp only [LMS, LX, implies_true]) ?_
      (simp (maxSteps := 4000000) only [LM, w0, LZ, seval, reduceCtorEq, forall_const])
      repeat (refine And.intro (by first | omega | exact True.intro | rfl) ?_)
      refine ⟨i + 1, by omega, by omega, by omega, ?_⟩
      have e88 : 8 * (i + 1) = 8 * i + 8 := by omega
      rw [e88]
      refine Weak.fr [0, 1, 2, 3, 4, 5, 103] [] hx (by simp only [fr_length]) (by decide) ?_ ?_
      · simp only [LY, seval, reduceCtorEq, implies_true]
      · simp only [Sim_seen, LMS, LY, seval, reduceCtorEq, implies_true]
        intro q hq
        by_cases e : q < 8 * i
        · rw [if_pos e]
        · have e1 : q / 8 = i := by omega
          have e2 : q % 8 = q - 8 * i := by omega
          rw [if_neg e, byWs, e1, e2]
end Mv
