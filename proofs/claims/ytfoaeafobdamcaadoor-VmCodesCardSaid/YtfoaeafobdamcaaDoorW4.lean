/- Words of instructions; loading. -/
import Derived.Test.YtfoaeafobdamcaaDoorW1
import Derived.Test.YtfoaeafobdamcaaDoorW3
set_option linter.unusedSimpArgs false
set_option linter.unusedVariables false
namespace Mv
open Go
set_option maxRecDepth 20000
set_option maxHeartbeats 4000000
set_option linter.unusedSimpArgs false

structure In where
  op : Int
  d : Int
  a : Int
  b : Int
  c : Int
  n : Int
  raw : BitVec 64
instance : Inhabited In := ⟨⟨0, 0, 0, 0, 0, 0, 0#64⟩⟩
def insV (x : In) : V := .st 7 (.fcons 0 (.int .i64 x.op) (.fcons 1 (.int .i64 x.d) (.fcons 2 (.int .i64 x.a) (.fcons 3 (.int .i64 x.b) (.fcons 4 (.int .i64 x.c) (.fcons 5 (.int .i64 x.n) (.fcons 6 (W x.raw) .fnil)))))))
def m16 (d : Int) : Nat := (BitVec.ofInt 64 d % 16#64).toNat
theorem m16_lt (d : Int) : m16 d < 16 := by rw [m16, BitVec.toNat_umod]; exact Nat.mod_lt _ (by decide)
theorem m16_int (d : Int) : (BitVec.ofInt 64 d % 16#64).toInt = (m16 d : Int) := by
  have := m16_lt d
  rw [BitVec.toInt_eq_toNat_cond, if_pos (by unfold m16 at this; omega)]; rfl
def wordOf (x : In) : BitVec 64 := if rcOk x.op x.n then rcW x.op (m16 x.d) (m16 x.a) (m16 x.b) (m16 x.c) x.n else x.raw
def insL (l : List In) : V := .lst 7 l.length (fun j => insV (l.getD j default))

theorem runs_WordsNil {M : Seat} (ok : OkI M) (v : V) (hv : v = .nils ∨ v = insL []) : Runs M 75 [v] [] 0 (fun r H' k' => r = .nils ∧ H' = [] ∧ k' = 0) := by
  refine runs_fr ok.k75 rfl fun x hx => ?_
  rcases hv with rfl | rfl
  · refine ex_sound 2000 _ _ _ _ ?_; (simp (maxSteps := 4000000) only [f75, c75, LZ, seval, reduceCtorEq, forall_const])
    refine loop_once ?_
    refine ex_sound 2000 _ _ _ _ ?_
    (simp (maxSteps := 4000000) only [LZ, seval, reduceCtorEq, forall_const])
    exact RetS.mkZ hx [] ⟨rfl, rfl, rfl⟩
  · refine ex_sound 2000 _ _ _ _ ?_; (simp (maxSteps := 4000000) only [f75, c75, insL, List.length_nil, LZ, seval, reduceCtorEq, forall_const])
    refine loop_once ?_
    refine ex_sound 2000 _ _ _ _ ?_
    (simp (maxSteps := 4000000) only [LZ, seval, reduceCtorEq, forall_const])
    exact RetS.mkZ hx [] ⟨rfl, rfl, rfl⟩

theorem runs_Words {M : Seat} (ok : OkI M) (l : List In) (h0 : 0 < l.length) (hl : l.length < 9223372036854775808) :
    Runs M 75 [insL l] [] 0 (fun r H' k' => r = .sl 0 [] 0 (min l.length 8192) 1 ∧ H' = [(0, .ar 1 (min l.length 8192) (fun j => W (wordOf (l.getD j default))))] ∧ k' = 1) := by
  refine runs_fr ok.k75 rfl fun x hx => ?_
  refine ex_sound 2000 _ _ _ _ ?_; (simp (maxSteps := 4000000) only [f75, c75, insL, LZ, seval, reduceCtorEq, forall_const])
  refine loop_once ?_
  refine ex_sound 2000 _ _ _ _ ?_
  have d0 : ((0 : Int) < (l.length : Int)) = True := eq_true (by omega)
  have d1 : (0 < l.length) = True := eq_true h0
  (simp (maxSteps := 4000000) only [d0, d1, insV, m16_int, LZ, seval, reduceCtorEq, forall_const])
  have hc := fun q : Nat => runs_refCode ok (l.getD q default).op (m16 (l.getD q default).d) (m16 (l.getD q default).a) (m16 (l.getD q default).b) (m16 (l.getD q default).c) (l.getD q default).n (m16_lt _) (m16_lt _) (m16_lt _) (m16_lt _)
  refine call_pZ (hc 0) ?_
  have wo : ∀ q : Nat, wordOf (l.getD q default) = if rcOk (l.getD q default).op (l.getD q default).n then rcW (l.getD q default).op (m16 (l.getD q default).d) (m16 (l.getD q default).a) (m16 (l.getD q default).b) (m16 (l.getD q default).c) (l.getD q default).n else (l.getD q default).raw := fun q => rfl
  have w1 : IntKind.i64.wrap 1 = 1 := rfl
  cases he : rcOk (l.getD 0 default).op (l.getD 0 default).n with
  | false =>
    have wo0 := wo 0
    rw [he] at wo0
    simp only [if_true, if_false, Bool.false_eq_true] at wo0
    (simp (maxSteps := 4000000) only [tup2, he, w1, LZ, seval, reduceCtorEq, forall_const])
    refine loop_rule (σ := Nat) (fun q => 1 ≤ q ∧ q ≤ min l.length 8192) (fun q => fr 55 [(8, insL l), (9, .int .i64 l.length), (10, .int .i64 q), (3, .sl 0 [] 0 q 1)])
      (fun q => [(0, .ar 1 q (fun j => W (wordOf (l.getD j default))))]) (fun _ => 1) (fun q => min l.length 8192 - q) 1 (by omega) ?_ ?_
    · refine Weak.fr [832] [] hx (by simp only [fr_length]) (by decide) ?_ ?_
      · simp only [insL, insV, LY, seval, reduceCtorEq, implies_true]
      · simp only [LY, seval, reduceCtorEq, implies_true]
        intro j hj
        obtain rfl : j = 0 := by omega
        rw [if_pos rfl, wo0]; exact (Sim_W _ _ _ _ _).mpr rfl
    · intro q ⟨hq1, hq⟩
      refine ex_sound 2000 _ _ _ _ ?_
      by_cases hqn : q = l.length
      · have d0 : ((q : Int) < (l.length : Int)) = False := eq_false (by omega)
        (simp (maxSteps := 4000000) only [insL, d0, LZ, seval, reduceCtorEq, forall_const])
        have hm : min l.length 8192 = q := by omega
        rw [hm]
        exact RetS.mkZ hx [0] ⟨rfl, rfl, rfl⟩
      · have d0 : ((q : Int) < (l.length : Int)) = True := eq_true (by omega)
        have d1 : (q < l.length) = True := eq_true (by omega)
        by_cases hq8 : q = 8192
        · have d2 : ((8192 : Int) ≤ (q : Int)) = True := eq_true (by omega)
          (simp (maxSteps := 4000000) only [insL, insV, d0, d1, d2, LZ, seval, reduceCtorEq, forall_const])
          repeat (refine And.intro (by first | omega | exact True.intro | rfl) ?_)
          have hm : min l.length 8192 = q := by omega
          rw [hm]
          exact RetS.mkZ hx [0] ⟨rfl, rfl, rfl⟩
        · have d2 : ((8192 : Int) ≤ (q : Int)) = False := eq_false (by omega)
          have w0 : IntKind.i64.wrap ((q : Int) + 1) = ((q + 1 : Nat) : Int) := by rw [wrap_i64 (by omega)]; omega
          have woq := wo q
          (simp (maxSteps := 4000000) only [insL, insV, m16_int, d0, d1, d2, LZ, seval, reduceCtorEq, forall_const])
          repeat (refine And.intro (by first | omega | exact True.intro | rfl) ?_)
          refine call_pZ (hc q) ?_
          cases hk : rcOk (l.getD q default).op (l.getD q default).n with
          | false =>
            rw [hk] at woq
            simp only [if_true, if_false, Bool.false_eq_true] at woq
            (simp (maxSteps := 4000000) only [tup2, hk, w0, LZ, seval, reduceCtorEq, forall_const])
            repeat (refine And.intro (by first | omega | exact True.intro | rfl) ?_)
            refine ⟨q + 1, by omega, by omega, by omega, ?_⟩
            refine Weak.fr [753] [] hx (by simp only [fr_length]) (by decide) ?_ ?_
            · simp only [insL, insV, LY, seval, reduceCtorEq, implies_true]
            · simp only [LY, seval, reduceCtorEq, implies_true]
              intro j hj
              by_cases hjq : j < q
              · rw [if_pos hjq]; exact (Sim_W _ _ _ _ _).mpr rfl
              · obtain rfl : j = q := by omega
                rw [if_neg hjq, if_pos (by omega), woq]; exact (Sim_W _ _ _ _ _).mpr rfl
          | true =>
            rw [hk] at woq
            simp only [if_true, if_false, Bool.false_eq_true] at woq
            (simp (maxSteps := 4000000) only [tup2, hk, w0, LZ, seval, reduceCtorEq, forall_const])
            repeat (refine And.intro (by first | omega | exact True.intro | rfl) ?_)
            refine ⟨q + 1, by omega, by omega, by omega, ?_⟩
            refine Weak.fr [705] [] hx (by simp only [fr_length]) (by decide) ?_ ?_
            · simp only [insL, insV, LY, seval, reduceCtorEq, implies_true]
            · simp only [LY, seval, reduceCtorEq, implies_true]
              intro j hj
              by_cases hjq : j < q
              · rw [if_pos hjq]; exact (Sim_W _ _ _ _ _).mpr rfl
              · obtain rfl : j = q := by omega
                rw [if_neg hjq, if_pos (by omega), woq]; exact (Sim_W _ _ _ _ _).mpr rfl
  | true =>
    have wo0 := wo 0
    rw [he] at wo0
    simp only [if_true, if_false, Bool.false_eq_true] at wo0
    (simp (maxSteps := 4000000) only [tup2, he, w1, LZ, seval, reduceCtorEq, forall_const])
    refine loop_rule (σ := Nat) (fun q => 1 ≤ q ∧ q ≤ min l.length 8192) (fun q => fr 55 [(8, insL l), (9, .int .i64 l.length), (10, .int .i64 q), (3, .sl 0 [] 0 q 1)])
      (fun q => [(0, .ar 1 q (fun j => W (wordOf (l.getD j default))))]) (fun _ => 1) (fun q => min l.length 8192 - q) 1 (by omega) ?_ ?_
    · refine Weak.fr [784] [] hx (by simp only [fr_length]) (by decide) ?_ ?_
      · simp only [insL, insV, LY, seval, reduceCtorEq, implies_true]
      · simp only [LY, seval, reduceCtorEq, implies_true]
        intro j hj
        obtain rfl : j = 0 := by omega
        rw [if_pos rfl, wo0]; exact (Sim_W _ _ _ _ _).mpr rfl
    · intro q ⟨hq1, hq⟩
      refine ex_sound 2000 _ _ _ _ ?_
      by_cases hqn : q = l.length
      · have d0 : ((q : Int) < (l.length : Int)) = False := eq_false (by omega)
        (simp (maxSteps := 4000000) only [insL, d0, LZ, seval, reduceCtorEq, forall_const])
        have hm : min l.length 8192 = q := by omega
        rw [hm]
        exact RetS.mkZ hx [0] ⟨rfl, rfl, rfl⟩
      · have d0 : ((q : Int) < (l.length : Int)) = True := eq_true (by omega)
        have d1 : (q < l.length) = True := eq_true (by omega)
        by_cases hq8 : q = 8192
        · have d2 : ((8192 : Int) ≤ (q : Int)) = True := eq_true (by omega)
          (simp (maxSteps := 4000000) only [insL, insV, d0, d1, d2, LZ, seval, reduceCtorEq, forall_const])
          repeat (refine And.intro (by first | omega | exact True.intro | rfl) ?_)
          have hm : min l.length 8192 = q := by omega
          rw [hm]
          exact RetS.mkZ hx [0] ⟨rfl, rfl, rfl⟩
        · have d2 : ((8192 : Int) ≤ (q : Int)) = False := eq_false (by omega)
          have w0 : IntKind.i64.wrap ((q : Int) + 1) = ((q + 1 : Nat) : Int) := by rw [wrap_i64 (by omega)]; omega
          have woq := wo q
          (simp (maxSteps := 4000000) only [insL, insV, m16_int, d0, d1, d2, LZ, seval, reduceCtorEq, forall_const])
          repeat (refine And.intro (by first | omega | exact True.intro | rfl) ?_)
          refine call_pZ (hc q) ?_
          cases hk : rcOk (l.getD q default).op (l.getD q default).n with
          | false =>
            rw [hk] at woq
            simp only [if_true, if_false, Bool.false_eq_true] at woq
            (simp (maxSteps := 4000000) only [tup2, hk, w0, LZ, seval, reduceCtorEq, forall_const])
            repeat (refine And.intro (by first | omega | exact True.intro | rfl) ?_)
            refine ⟨q + 1, by omega, by omega, by omega, ?_⟩
            refine Weak.fr [753] [] hx (by simp only [fr_length]) (by decide) ?_ ?_
            · simp only [insL, insV, LY, seval, reduceCtorEq, implies_true]
            · simp only [LY, seval, reduceCtorEq, implies_true]
              intro j hj
              by_cases hjq : j < q
              · rw [if_pos hjq]; exact (Sim_W _ _ _ _ _).mpr rfl
              · obtain rfl : j = q := by omega
                rw [if_neg hjq, if_pos (by omega), woq]; exact (Sim_W _ _ _ _ _).mpr rfl
          | true =>
            rw [hk] at woq
            simp only [if_true, if_false, Bool.false_eq_true] at woq
            (simp (maxSteps := 4000000) only [tup2, hk, w0, LZ, seval, reduceCtorEq, forall_const])
            repeat (refine And.intro (by first | omega | exact True.intro | rfl) ?_)
            refine ⟨q + 1, by omega, by omega, by omega, ?_⟩
            refine Weak.fr [705] [] hx (by simp only [fr_length]) (by decide) ?_ ?_
            · simp only [insL, insV, LY, seval, reduceCtorEq, implies_true]
            · simp only [LY, seval, reduceCtorEq, implies_true]
              intro j hj
              by_cases hjq : j < q
              · rw [if_pos hjq]; exact (Sim_W _ _ _ _ _).mpr rfl
              · obtain rfl : j = q := by omega
                rw [if_neg hjq, if_pos (by omega), woq]; exact (Sim_W _ _ _ _ _).mpr rfl
end Mv
namespace Mv
open Go
set_option maxRecDepth 20000
set_option maxHeartbeats 4000000
set_option linter.unusedSimpArgs false

/-- Memory with words at its front. -/
def memW (n : Nat) (u : Nat → BitVec 64) (j : Nat) : BitVec 64 := if j < n then u j else 0#64

theorem runs_LoadW {M : Seat} (okA : OkA M) (n : Nat) (hn : n ≤ 8192) (u : Nat → BitVec 64) : Runs M 74 [.lst 1 n (fun j => W (u j))] [] 0 (fun r H' k' => r = tup2 (.ptr 0 []) .nili ∧ H' = [(0, mach (memW n u) (fun _ => 0#64) 0#64 false 0#64)] ∧ k' = 1) := by
  refine runs_fr okA.k74 rfl fun x hx => ?_
  have e0 : ((8192 : Int) < (n : Int)) = False := eq_false (by omega)
  have m1 : min n 8192 = n := by omega
  have m2 : ∀ i : Nat, (0 ≤ i) = True := fun i => eq_true (Nat.zero_le i)
  refine ex_sound 2000 _ _ _ _ ?_; (simp (maxSteps := 4000000) only [f74, c74, e0, m1, m2, LZ, seval, reduceCtorEq, forall_const])
  refine RetS.mk hx [96] [] _ _ _ (by decide) (by (simp only [LV, mach, memW, ite_W, LZ, seval, reduceCtorEq, forall_const])) (by ((try simp only [LV, mach, memW, ite_W, LZ, seval, reduceCtorEq, forall_const, LY, seval, reduceCtorEq, implies_true]); first | done | exact True.intro | (intros; rfl))) (by ((try simp only [mach, memW, ite_W, LY, seval, reduceCtorEq, implies_true]); first | done | exact True.intro | (intros; rfl))) ⟨rfl, rfl, rfl⟩

theorem runs_loadedOf {M : Seat} (okA : OkA M) (ok : OkI M) (l : List In) (h0 : 0 < l.length) (hl : l.length ≤ 8192) :
    Runs M 67 [insL l] [] 0 (fun r H' k' => r = .ptr 0 [] ∧ H' = [(0, mach (memW l.length (fun j => wordOf (l.getD j default))) (fun _ => 0#64) 0#64 false 0#64)] ∧ k' = 1) := by
  refine runs_fr ok.k67 rfl fun x hx => ?_
  have m1 : min l.length 8192 = l.length := by omega
  have hW := runs_Words ok l h0 (by omega)
  rw [m1] at hW
  refine ex_sound 2000 _ _ _ _ ?_; (simp (maxSteps := 4000000) only [f67, c67, LZ, seval, reduceCtorEq, forall_const])
  refine call_fA (hW) (by decide) (by ((try simp only [insL, insV, LY, seval, reduceCtorEq, implies_true]); first | done | exact True.intro | rfl)) (by simp only [insL, insV, LX, implies_true]) (by simp only [insL, insV, LX, implies_true]) ?_
  (simp (maxSteps := 4000000) only [LZ, seval, reduceCtorEq, forall_const])
  refine call_fZ (runs_LoadW okA l.length hl (fun j => wordOf (l.getD j default))) ?_
  (simp (maxSteps := 4000000) only [tup2, ren_mach, LZ, seval, reduceCtorEq, forall_const])
  refine RetS.mk hx [48] [] _ _ _ (by decide) (by (simp only [LV, mach, LZ, seval, reduceCtorEq, forall_const])) (by ((try simp only [LV, mach, LZ, seval, reduceCtorEq, forall_const, LY, seval, reduceCtorEq, implies_true]); first | done | exact True.intro | (intros; rfl))) (by ((try simp only [mach, LY, seval, reduceCtorEq, implies_true]); first | done | exact True.intro | (intros; rfl))) ⟨rfl, rfl, rfl⟩

structure OkW (M : Seat) : Prop extends OkI M where
  k215 : chkF M 215 f215 = true
theorem runs_Apply1 {M : Seat} (ok : OkW M) (a b c : BitVec 64) : Runs M 215 [.int .i64 1, W a, W b, W c] [] 0 (fun r H' k' => r = tup2 (W (a + b)) .nili ∧ H' = [] ∧ k' = 0) := by
  refine runs_fr ok.k215 rfl fun x hx => ?_
  refine ex_sound 2000 _ _ _ _ ?_; (simp (maxSteps := 4000000) only [f215, c215, LZ, seval, reduceCtorEq, forall_const])
  exact RetS.mkZ hx [] ⟨rfl, rfl, rfl⟩

theorem runs_StepAdd {M : Seat} (ok : OkW M) (f g : Nat → BitVec 64) (pc xt : BitVec 64) (hpc : ¬ 8192#64 ≤ pc) (w : BitVec 64) (hw : f pc.toNat = w) (hop : pOp w = 1) (h2 : w >>> 32 &&& 255#64 = 0#64) :
    Runs M 70 [.ptr 0 [], .ptr 1 []] [(0, mach f g pc false xt)] 2 (fun r H' k' => r = .nili ∧ H' = [(0, mach f (upd g (pF w 52) (g (pF w 48) + g (pF w 44))) (pc + 1#64) false xt)] ∧ k' = 2) := by
  refine runs_fr ok.k70 rfl fun x hx => ?_
  have hp : pc.toNat < 8192 := by rw [BitVec.le_def] at hpc; simpa using hpc
  have a1 := pF_lt w 52
  have a2 := pF_lt w 48
  have a3 := pF_lt w 44
  have a4 := pF_lt w 40
  refine ex_sound 2000 _ _ _ _ ?_; (simp (maxSteps := 4000000) only [f70, c70, mach, hpc, hw, LZ, seval, reduceCtorEq, forall_const])
  repeat (refine And.intro (by first | omega | exact True.intro | rfl) ?_)
  refine opd_pA (runs_Parts ok.toOkV w (by omega) h2) (by ((try simp only [partsR, LY, seval, reduceCtorEq, implies_true]); first | done | exact True.intro | rfl)) (by first | rfl | (simp only [LN, LP, V.ren, tup2, tup3])) (by simp only [partsR, LX, implies_true]) ?_
  (simp (maxSteps := 4000000) only [partsR, hop, LZ, seval, reduceCtorEq, forall_const])
  repeat (refine And.intro (by first | omega | exact True.intro | rfl) ?_)
  refine opd_pZ (runs_Apply1 ok (g (pF w 48)) (g (pF w 44)) (g (pF w 40))) ?_
  (simp (maxSteps := 4000000) only [tup2, LZ, seval, reduceCtorEq, forall_const])
  repeat (refine And.intro (by first | omega | exact True.intro | rfl) ?_)
  refine RetS.mk hx [0, 1] [] _ _ _ (by decide) (by (simp only [LV, mach, upd, ite_W, LZ, seval, reduceCtorEq, forall_const])) (by ((try simp only [LV, mach, upd, ite_W, LZ, seval, reduceCtorEq, forall_const, LY, seval, reduceCtorEq, implies_true]); first | done | exact True.intro | (intros; rfl))) (by ((try simp only [mach, upd, ite_W, LY, seval, reduceCtorEq, implies_true]); first | done | exact True.intro | (intros; rfl))) ⟨rfl, rfl, rfl⟩
end Mv
namespace Mv
open Go
set_option maxRecDepth 20000
set_option maxHeartbeats 4000000
set_option linter.unusedSimpArgs false

def fxU (j : Nat) : BitVec 64 := if j = 0 then cdW 26 1 0 0 0 5 else if j = 1 then cdW 26 2 0 0 0 (-3) else if j = 2 then cdW 1 3 1 2 0 0 else cdW 0 0 3 0 0 0
def fxM (i : Nat) : Mc :=
  if i = 0 then ⟨memW 4 fxU, fun _ => 0#64, 0#64, false, 0#64⟩
  else if i = 1 then ⟨memW 4 fxU, upd (fun _ => 0#64) 1 5#64, 1#64, false, 0#64⟩
  else if i = 2 then ⟨memW 4 fxU, upd (upd (fun _ => 0#64) 1 5#64) 2 18446744073709551613#64, 2#64, false, 0#64⟩
  else if i = 3 then ⟨memW 4 fxU, upd (upd (upd (fun _ => 0#64) 1 5#64) 2 18446744073709551613#64) 3 2#64, 3#64, false, 0#64⟩
  else ⟨memW 4 fxU, upd (upd (upd (fun _ => 0#64) 1 5#64) 2 18446744073709551613#64) 3 2#64, 3#64, true, 2#64⟩

theorem fx_step {M : Seat} (ok : OkW M) : ∀ i, i < 4 → (fxM i).hl = false ∧ StepTo M (fxM i) (fxM (i + 1)) := by
  intro i hi
  have hd : ∀ a b : BitVec 64, a = b → a = b := fun _ _ h => h
  match i, hi with
  | 0, _ => exact ⟨rfl, runs_StepLi ok.toOkV (memW 4 fxU) (fun _ => 0#64) 0#64 0#64 (by decide) (cdW 26 1 0 0 0 5) rfl (by decide) (by decide)⟩
  | 1, _ => exact ⟨rfl, runs_StepLi ok.toOkV (memW 4 fxU) (upd (fun _ => 0#64) 1 5#64) 1#64 0#64 (by decide) (cdW 26 2 0 0 0 (-3)) rfl (by decide) (by decide)⟩
  | 2, _ => exact ⟨rfl, runs_StepAdd ok (memW 4 fxU) (upd (upd (fun _ => 0#64) 1 5#64) 2 18446744073709551613#64) 2#64 0#64 (by decide) (cdW 1 3 1 2 0 0) rfl (by decide) (by decide)⟩
  | 3, _ => exact ⟨rfl, runs_StepHalt ok.toOkV (memW 4 fxU) (upd (upd (upd (fun _ => 0#64) 1 5#64) 2 18446744073709551613#64) 3 2#64) 3#64 0#64 (by decide) (cdW 0 0 3 0 0 0) rfl (by decide) (by decide)⟩

theorem runs_fixed10 {M : Seat} (okA : OkA M) (ok : OkW M) : Runs M 69 [] [] 0 (fun r H' k' => r = .bool true ∧ H' = [] ∧ k' = 0) := by
  refine runs_fr ok.k69 rfl fun x hx => ?_
  have w1 : IntKind.i64.wrap 1 = 1 := rfl
  have w2 : IntKind.i64.wrap 2 = 2 := rfl
  have w3 : IntKind.i64.wrap 3 = 3 := rfl
  have w4 : IntKind.i64.wrap 4 = 4 := rfl
  refine ex_sound 2000 _ _ _ _ ?_; (simp (maxSteps := 4000000) only [f69, c69, LZ, seval, reduceCtorEq, forall_const])
  refine loop_once ?_
  refine ex_sound 2000 _ _ _ _ ?_
  (simp (maxSteps := 4000000) only [LZ, seval, reduceCtorEq, forall_const])
  refine call_pZ (runs_Code ok.toOkI 26 1 0 0 0 5 (by omega) (by omega) (by omega) (by omega) (by omega) (by omega)) ?_
  (simp (maxSteps := 4000000) only [tup2, w1, LZ, seval, reduceCtorEq, forall_const])
  refine loop_once ?_
  refine ex_sound 2000 _ _ _ _ ?_
  (simp (maxSteps := 4000000) only [LZ, seval, reduceCtorEq, forall_const])
  refine call_pZ (runs_Code ok.toOkI 26 2 0 0 0 (-3) (by omega) (by omega) (by omega) (by omega) (by omega) (by omega)) ?_
  (simp (maxSteps := 4000000) only [tup2, w2, LZ, seval, reduceCtorEq, forall_const])
  refine loop_once ?_
  refine ex_sound 2000 _ _ _ _ ?_
  (simp (maxSteps := 4000000) only [LZ, seval, reduceCtorEq, forall_const])
  refine call_pZ (runs_Code ok.toOkI 1 3 1 2 0 0 (by omega) (by omega) (by omega) (by omega) (by omega) (by omega)) ?_
  (simp (maxSteps := 4000000) only [tup2, w3, LZ, seval, reduceCtorEq, forall_const])
  refine loop_once ?_
  refine ex_sound 2000 _ _ _ _ ?_
  (simp (maxSteps := 4000000) only [LZ, seval, reduceCtorEq, forall_const])
  refine call_pZ (runs_Code ok.toOkI 0 0 3 0 0 0 (by omega) (by omega) (by omega) (by omega) (by omega) (by omega)) ?_
  (simp (maxSteps := 4000000) only [tup2, w4, LZ, seval, reduceCtorEq, forall_const])
  refine loop_once ?_
  refine ex_sound 2000 _ _ _ _ ?_
  (simp (maxSteps := 4000000) only [LZ, seval, reduceCtorEq, forall_const])
  refine call_fA (runs_LoadW okA 4 (by omega) fxU) (by decide) (by ((try simp only [LY, seval, reduceCtorEq, implies_true]); first | done | exact True.intro | rfl | ((intro j hj; have : j = 0 ∨ j = 1 ∨ j = 2 ∨ j = 3 := by omega); (rcases this with rfl | rfl | rfl | rfl <;> exact (Sim_W _ _ _ _ _).mpr rfl)))) (by simp only [LX, implies_true]) (by simp only [LX, implies_true]) ?_
  (simp (maxSteps := 4000000) only [tup2, ren_mach, LZ, seval, reduceCtorEq, forall_const])
  refine call_fA (runs_New okA ok.toOkS) (by decide) (by ((try simp only [stoH', stoV, kinV, LMS, NoIm_seen, LY, seval, reduceCtorEq, implies_true]); first | done | exact True.intro | rfl)) (by simp only [stoH', stoV, kinV, LMS, NoIm_seen, LX, implies_true]) (by simp only [stoH', stoV, kinV, LMS, NoIm_seen, LX, implies_true]) ?_
  (simp (maxSteps := 4000000) only [stoH', stoV, kinV, ren_seen, LM, ren_mach, LZ, seval, reduceCtorEq, forall_const])
  have hr := runs_Run ok.toOkV fxM 4 99 (by omega) (by omega) (fx_step ok) (.inl rfl)
  have e0 : (fxM 0).v = mach (memW 4 fxU) (fun _ => 0#64) 0#64 false 0#64 := rfl
  have e4 : (fxM 4).v = mach (memW 4 fxU) (upd (upd (upd (fun _ => 0#64) 1 5#64) 2 18446744073709551613#64) 3 2#64) 3#64 true 2#64 := rfl
  rw [e0, e4] at hr
  refine call_mB [2224, 2432] [2224] (hr) (by rfl) (by rfl) (by decide) (by rfl) (by rfl) (by ((try simp only [mach, LY, seval, reduceCtorEq, implies_true]); first | done | exact True.intro | rfl)) (by ((try simp only [mach, LY, seval, reduceCtorEq, implies_true]); first | done | exact True.intro | rfl)) (by simp only [mach, LX, implies_true]) (by simp only [mach, LX, implies_true]) ?_
  (simp (maxSteps := 4000000) only [tup2, ren_mach, mach, LZ, seval, reduceCtorEq, forall_const])
  exact RetS.mkZ hx [] ⟨rfl, rfl, rfl⟩
end Mv
namespace Mv
open Go
set_option maxRecDepth 20000
set_option maxHeartbeats 4000000
set_option linter.unusedSimpArgs false

/-- n, cut to 32 bits. -/
def i32 (n : Int) : Int := if n % 4294967296 ≥ 2147483648 then n % 4294967296 - 4294967296 else n % 4294967296
theorem i32_wrap (n : Int) : IntKind.i32.wrap n = i32 n := by simp [i32, IntKind.wrap, IntKind.bits, IntKind.signed]
theorem i32_in (n : Int) : -2147483648 ≤ i32 n ∧ i32 n < 2147483648 := by unfold i32; split <;> omega
theorem i32_i64 (n : Int) : IntKind.i64.wrap (i32 n) = i32 n := by have := i32_in n; rw [wrap_i64 (by omega)]

theorem ofInt_small (q : Nat) (hq : q < 100) : (BitVec.ofInt 64 (q : Int)).toNat = q := by
  rw [ofInt_n, BitVec.toNat_ofNat, Nat.mod_eq_of_lt (by omega)]
theorem mulAdd (x y : BitVec 64) (m : Nat) (k q : Nat) (hm : (BitVec.ofNat 64 m).toNat = m) (hx : x.toNat = k) (hy : y.toNat = q) (h : k * m + q < 18446744073709551616) : (x * BitVec.ofNat 64 m + y).toNat = k * m + q := by
  rw [BitVec.toNat_add, BitVec.toNat_mul, hx, hy, hm, Nat.mod_eq_of_lt (a := k * m) (by omega), Nat.mod_eq_of_lt h]
theorem and32 (n : Int) : (BitVec.ofInt 64 n &&& 4294967295#64).toNat = (n % 4294967296).toNat := by
  have e : (4294967295#64).toNat = 2 ^ 32 - 1 := by decide
  rw [BitVec.toNat_and, e, Nat.and_two_pow_sub_one_eq_mod, BitVec.toNat_ofInt]
  omega
theorem rcW_nat (op d a b c : Nat) (ho : op ≤ 35) (hd : d < 16) (ha : a < 16) (hb : b < 16) (hc : c < 16) (n : Int) :
    (rcW op d a b c n).toNat = ((((op * 16 + d) * 16 + a) * 16 + b) * 16 + c) * 1099511627776 + (n % 4294967296).toNat := by
  have e3 : (n % 4294967296).toNat < 4294967296 := by omega
  have h16 : (BitVec.ofNat 64 16).toNat = 16 := by decide
  have h40 : (BitVec.ofNat 64 1099511627776).toNat = 1099511627776 := by decide
  have s1 := mulAdd _ _ 16 op d h16 (ofInt_small op (by omega)) (ofInt_small d (by omega)) (by omega)
  have s2 := mulAdd _ _ 16 _ a h16 s1 (ofInt_small a (by omega)) (by omega)
  have s3 := mulAdd _ _ 16 _ b h16 s2 (ofInt_small b (by omega)) (by omega)
  have s4 := mulAdd _ _ 16 _ c h16 s3 (ofInt_small c (by omega)) (by omega)
  exact mulAdd _ _ 1099511627776 _ _ h40 s4 (and32 n) (by omega)
theorem rcW_op (op d a b c : Nat) (ho : op ≤ 35) (hd : d < 16) (ha : a < 16) (hb : b < 16) (hc : c < 16) (n : Int) : pOp (rcW op d a b c n) = op := by
  rw [pOp_nat, rcW_nat op d a b c ho hd ha hb hc]; omega
theorem rcW_z (op d a b c : Nat) (ho : op ≤ 35) (hd : d < 16) (ha : a < 16) (hb : b < 16) (hc : c < 16) (n : Int) : rcW op d a b c n >>> 32 &&& 255#64 = 0#64 := by
  rw [pZ_nat, rcW_nat op d a b c ho hd ha hb hc]; omega
theorem rcW_d (op d a b c : Nat) (ho : op ≤ 35) (hd : d < 16) (ha : a < 16) (hb : b < 16) (hc : c < 16) (n : Int) : pF (rcW op d a b c n) 52 = d := by
  rw [pF_nat, rcW_nat op d a b c ho hd ha hb hc]; omega
theorem rcW_a (op d a b c : Nat) (ho : op ≤ 35) (hd : d < 16) (ha : a < 16) (hb : b < 16) (hc : c < 16) (n : Int) : pF (rcW op d a b c n) 48 = a := by
  rw [pF_nat, rcW_nat op d a b c ho hd ha hb hc]; omega
theorem rcW_b (op d a b c : Nat) (ho : op ≤ 35) (hd : d < 16) (ha : a < 16) (hb : b < 16) (hc : c < 16) (n : Int) : pF (rcW op d a b c n) 44 = b := by
  rw [pF_nat, rcW_nat op d a b c ho hd ha hb hc]; omega
theorem rcW_c (op d a b c : Nat) (ho : op ≤ 35) (hd : d < 16) (ha : a < 16) (hb : b < 16) (hc : c < 16) (n : Int) : pF (rcW op d a b c n) 40 = c := by
  rw [pF_nat, rcW_nat op d a b c ho hd ha hb hc]; omega
theorem rcW_n (op d a b c : Nat) (ho : op ≤ 35) (hd : d < 16) (ha : a < 16) (hb : b < 16) (hc : c < 16) (n : Int) (hn : -2147483648 ≤ n ∧ n < 2147483648) : pN (rcW op d a b c n) = n := by
  rw [pN_nat, rcW_nat op d a b c ho hd ha hb hc]
  have : (((((op * 16 + d) * 16 + a) * 16 + b) * 16 + c) * 1099511627776 + (n % 4294967296).toNat) % 4294967296 = (n % 4294967296).toNat := by omega
  rw [this]
  split <;> omega

theorem esM_P (c : Bool) (f g f' g' : Nat → BitVec 64) (pc pc' xt xt' : BitVec 64) (hl hl' : Bool) : veqP c (.st (.cons 0 8192 true (.ar 8192 1 false .int) (.cons 8192 16 true (.ar 16 1 false .int) (.cons 8208 1 false .int (.cons 8209 1 false .bool (.cons 8210 1 false .int .nil)))))) (.st 8211 (.fcons 0 (.ar 1 8192 (fun j => W (f j))) (.fcons 8192 (.ar 1 16 (fun j => W (g j))) (.fcons 8208 (W pc) (.fcons 8209 (.bool hl) (.fcons 8210 (W xt) .fnil)))))) (.st 8211 (.fcons 0 (.ar 1 8192 (fun j => W (f' j))) (.fcons 8192 (.ar 1 16 (fun j => W (g' j))) (.fcons 8208 (W pc') (.fcons 8209 (.bool hl') (.fcons 8210 (W xt') .fnil)))))) = True := by
  refine eq_true ?_
  simp only [veqP, V.fhas, V.fget, LY, seval, reduceCtorEq, implies_true, W, V.size, V.isAgg, V.solid]
theorem esM_V (f g : Nat → BitVec 64) (pc xt : BitVec 64) (hl : Bool) : veqV (.st (.cons 0 8192 true (.ar 8192 1 false .int) (.cons 8192 16 true (.ar 16 1 false .int) (.cons 8208 1 false .int (.cons 8209 1 false .bool (.cons 8210 1 false .int .nil)))))) (.st 8211 (.fcons 0 (.ar 1 8192 (fun j => W (f j))) (.fcons 8192 (.ar 1 16 (fun j => W (g j))) (.fcons 8208 (W pc) (.fcons 8209 (.bool hl) (.fcons 8210 (W xt) .fnil)))))) (.st 8211 (.fcons 0 (.ar 1 8192 (fun j => W (f j))) (.fcons 8192 (.ar 1 16 (fun j => W (g j))) (.fcons 8208 (W pc) (.fcons 8209 (.bool hl) (.fcons 8210 (W xt) .fnil)))))) = true := by
  have h1 : ∀ a : BitVec 64, veqV .int (W a) (W a) = true := fun a => by simp only [veqV, W, decide_true]
  have h2 : ∀ (n : Nat) (f : Nat → BitVec 64), veqV (.ar n 1 false .int) (.ar 1 n (fun j => W (f j))) (.ar 1 n (fun j => W (f j))) = true := fun n f => by
    simp only [veqV, W, decide_true]; simp
  have e : ∀ fs a b, veqV (.st fs) (.st 8211 a) (.st 8211 b) = veqV fs a b := fun _ _ _ => rfl
  have e2 : ∀ o s ag t r a b, veqV (.cons o s ag t r) a b = (veqV t (a.fget o) (b.fget o) && veqV r a b) := fun _ _ _ _ _ _ _ => rfl
  have e3 : ∀ a b, veqV .nil a b = true := fun _ _ => by cases hl <;> rfl
  simp only [e, e2, e3, V.fget, if_true, Nat.reduceEqDiff, if_false, h1, h2, eqV_b, seval, Bool.and_self, beq_self_eq_true]
theorem rcOk_in (op : Nat) (ho : op ≤ 35) (n : Int) (hn : -2147483648 ≤ n ∧ n < 2147483648) : rcOk op n = true := by
  simp only [rcOk, decide_eq_true_eq]; omega
end Mv
