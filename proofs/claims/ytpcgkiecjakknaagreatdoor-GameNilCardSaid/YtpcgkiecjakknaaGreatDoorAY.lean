/- A part. -/
import Derived.Test.YtpcgkiecjakknaaGreatDoorAX
set_option linter.all false
set_option maxRecDepth 20000
set_option maxHeartbeats 8000000
namespace Mv
open Go

structure OkDl (M : Seat) : Prop where
  k149 : chkF M 149 f149 = true
  k263 : chkF M 263 f263 = true
def evV (v : BitVec 64) (p : Nat) : V := .st 4 (.fcons 0 (.int .i64 1) (.fcons 1 (.int .i64 p) (.fcons 2 (.int .i64 0) (.fcons 3 (W v) .fnil))))
def dlV (s : V) : V := .st 1 (.fcons 0 s .fnil)
def smV (v : BitVec 64) : Nat → BitVec 64
  | 0 => 0#64
  | n + 1 => smV v n + v
theorem runs_dSum {M : Seat} (ok : OkDl M) (v : BitVec 64) (n : Nat) (hn : n < 1000) : Runs M 149 [dlV (.lst 4 n (evV v)), .int .i64 1, .int .i64 (-1)] [] 0 (fun r H' k' => r = W (smV v n) ∧ H' = [] ∧ k' = 0) := by
  refine runs_fr ok.k149 rfl fun x hx => ?_
  refine ex_sound 2000 _ _ _ _ ?_; (simp (maxSteps := 4000000) only [f149, c149, dlV, LZ, seval, reduceCtorEq, forall_const])
  have z1 : ((-1 : Int) < 0) = True := eq_true (by decide)
  refine loop_rule (σ := Nat) (fun j => j ≤ n) (fun j => fr 47 [(8, .int .i64 j), (7, W (smV v j)), (3, .ptr 0 []), (2, .int .i64 (-1)), (1, .int .i64 1)]) (fun _ => [(0, dlV (.lst 4 n (evV v)))]) (fun _ => 1) (fun j => n - j) 0 (by omega) ?_ ?_
  · refine Weak.fr [0] [] hx (by simp only [fr_length]) (by decide) ?_ ?_
    · simp only [smV, Int.natCast_zero, LY, seval, reduceCtorEq, implies_true]
    · simp only [dlV, evV, LY, seval, reduceCtorEq, implies_true]
  · intro j hj
    refine ex_sound 2000 _ _ _ _ ?_
    by_cases h : j = n
    · subst h
      have d0 : ((j : Int) < (j : Int)) = False := eq_false (by omega)
      (simp (maxSteps := 4000000) only [dlV, d0, LZ, seval, reduceCtorEq, forall_const])
      exact RetS.mkZ hx [] ⟨rfl, rfl, rfl⟩
    · have d0 : ((j : Int) < (n : Int)) = True := eq_true (by omega)
      have d1 : (j < n) = True := eq_true (by omega)
      have w0 : IntKind.i64.wrap ((j : Int) + 1) = ((j + 1 : Nat) : Int) := by rw [wrap_i64 (by omega)]; omega
      (simp (maxSteps := 4000000) only [dlV, evV, d0, d1, w0, z1, LZ, seval, reduceCtorEq, forall_const])
      repeat (refine And.intro (by first | omega | exact True.intro | rfl) ?_)
      refine ⟨j + 1, by omega, by omega, ?_⟩
      refine Weak.fr [0] [] hx (by simp only [fr_length]) (by decide) ?_ ?_
      · simp only [smV, LY, seval, reduceCtorEq, implies_true]
      · simp only [dlV, evV, LY, seval, reduceCtorEq, implies_true]

theorem runs_dDo0 {M : Seat} (ok : OkDl M) (v : BitVec 64) (hv : ¬ 281474976710656#64 < v) : Runs M 263 [.ptr 0 [], evV v 0] [(0, dlV .nils)] 1 (fun r H' k' => r = tup2 (.int .i64 0) (.int .i64 0) ∧ H' = [(0, dlV (.sl 1 [] 0 1 4)), (1, .ar 4 1 (evV v))] ∧ k' = 2) := by
  have hS := runs_dSum ok v 0 (by decide)
  refine runs_fr ok.k263 rfl fun x hx => ?_
  refine ex_sound 2000 _ _ _ _ ?_; (simp (maxSteps := 4000000) only [f263, c263, evV, dlV, LZ, seval, reduceCtorEq, forall_const])
  refine loop_once ?_
  refine ex_sound 2000 _ _ _ _ ?_
  (simp (maxSteps := 4000000) only [evV, dlV, hv, LZ, seval, reduceCtorEq, forall_const])
  refine opd_pA (hS) (by ((try simp only [dlV, LY, seval, reduceCtorEq, implies_true]); first | done | exact True.intro | rfl)) (by first | rfl | (simp only [LN, LP, V.ren, tup2, tup3])) (by simp only [dlV, LX, implies_true]) ?_
  (simp (maxSteps := 4000000) only [smV, hv, BitVec.zero_add, Nat.testBit, List.map_nil, List.map_cons, List.nil_append, List.cons_append, LZ, seval, reduceCtorEq, forall_const])
  refine RetS.mk hx [0, 1105] [] (tup2 (.int .i64 0) (.int .i64 0)) [(0, dlV (.sl 1 [] 0 1 4)), (1, .ar 4 1 (evV v))] 2 (by decide) (by (simp only [LV, dlV, LZ, seval, reduceCtorEq, forall_const])) (by simp only [LV, tup2, LY, seval, reduceCtorEq, implies_true]) ?_ ⟨rfl, rfl, rfl⟩
  simp only [dlV, evV, LY, seval, reduceCtorEq, implies_true]
  intro j hj
  obtain rfl : j = 0 := by omega
  simp only [if_true, Int.natCast_zero, LY, seval, reduceCtorEq, implies_true]

theorem runs_dDoS {M : Seat} (ok : OkDl M) (v : BitVec 64) (hv : ¬ 281474976710656#64 < v) (n : Nat) (h1 : 1 ≤ n) (h8 : n < 8) (hs : ¬ 281474976710656#64 < smV v n + v) : Runs M 263 [.ptr 0 [], evV v n] [(0, dlV (.sl 1 [] 0 n 4)), (1, .ar 4 n (evV v))] 2 (fun r H' k' => r = tup2 (.int .i64 0) (.int .i64 0) ∧ H' = [(0, dlV (.sl 2 [] 0 (n + 1) 4)), (2, .ar 4 (n + 1) (evV v))] ∧ k' = 3) := by
  have hS := runs_dSum ok v n (by omega)
  refine runs_fr ok.k263 rfl fun x hx => ?_
  have e0 : ((n : Int) < 0) = False := eq_false (by omega)
  have e1 : ((8 : Int) ≤ (n : Int)) = False := eq_false (by omega)
  refine ex_sound 2000 _ _ _ _ ?_; (simp (maxSteps := 4000000) only [f263, c263, evV, dlV, e0, e1, LZ, seval, reduceCtorEq, forall_const])
  refine loop_rule (σ := Nat) (fun j => j ≤ n) (fun j => fr 123 [(0, .ptr 0 []), (3, .ptr 2 []), (4, .int .i64 0), (5, .int .i64 0), (6, .int .i64 0), (7, W 0#64), (8, .bool false), (9, .int .i64 j)]) (fun _ => [(0, dlV (.sl 1 [] 0 n 4)), (1, .ar 4 n (evV v)), (2, evV v n)]) (fun _ => 3) (fun j => n - j) 0 (by omega) ?_ ?_
  · refine Weak.fr [0, 1, 2] [] hx (by simp only [fr_length]) (by decide) ?_ ?_
    · simp only [Int.natCast_zero, LY, seval, reduceCtorEq, implies_true]
    · simp only [dlV, evV, LY, seval, reduceCtorEq, implies_true]
  · intro j hj
    refine ex_sound 2000 _ _ _ _ ?_
    by_cases h : j = n
    · have d0 : ((j : Int) < (n : Int)) = False := eq_false (by omega)
      (simp (maxSteps := 4000000) only [dlV, evV, d0, hv, LZ, seval, reduceCtorEq, forall_const])
      refine opd_pA (hS) (by ((try simp only [dlV, evV, LY, seval, reduceCtorEq, implies_true]); first | done | exact True.intro | rfl)) (by first | rfl | (simp only [LN, LP, V.ren, tup2, tup3])) (by simp only [dlV, evV, LX, implies_true]) ?_
      (simp (maxSteps := 4000000) only [hs, Nat.testBit, List.map_nil, List.map_cons, List.nil_append, List.cons_append, LZ, seval, reduceCtorEq, forall_const])
      repeat (refine And.intro (by first | omega | exact True.intro | rfl) ?_)
      refine RetS.mk hx [0, 1, 867] [] (tup2 (.int .i64 0) (.int .i64 0)) [(0, dlV (.sl 2 [] 0 (n + 1) 4)), (2, .ar 4 (n + 1) (evV v))] 3 (by decide) (by (simp only [LV, dlV, LZ, seval, reduceCtorEq, forall_const])) (by simp only [LV, tup2, LY, seval, reduceCtorEq, implies_true]) ?_ ⟨rfl, rfl, rfl⟩
      simp only [dlV, evV, LY, seval, reduceCtorEq, implies_true]
      intro j hj
      by_cases h : j < n
      · rw [if_pos h]; simp only [LY, seval, reduceCtorEq, implies_true]
      · obtain rfl : j = n := by omega
        rw [if_neg h, if_pos (Nat.sub_self _)]; simp only [LY, seval, reduceCtorEq, implies_true]
    · have d0 : ((j : Int) < (n : Int)) = True := eq_true (by omega)
      have d1 : (j < n) = True := eq_true (by omega)
      have w0 : IntKind.i64.wrap ((j : Int) + 1) = ((j + 1 : Nat) : Int) := by rw [wrap_i64 (by omega)]; omega
      (simp (maxSteps := 4000000) only [dlV, evV, d0, d1, w0, LZ, seval, reduceCtorEq, forall_const])
      repeat (refine And.intro (by first | omega | exact True.intro | rfl) ?_)
      refine ⟨j + 1, by omega, by omega, ?_⟩
      refine Weak.fr [0, 1, 2] [] hx (by simp only [fr_length]) (by decide) ?_ ?_
      · simp only [LY, seval, reduceCtorEq, implies_true]
      · simp only [dlV, evV, LY, seval, reduceCtorEq, implies_true]

structure OkRi (M : Seat) : Prop where
  l : OkLd M
  d : OkDl M
  k138 : chkF M 138 f138 = true
def balV (v : BitVec 64) (n j : Nat) : BitVec 64 := if j < n then v else 0#64
theorem runs_rich {M : Seat} (ok : OkRi M) (v : BitVec 64) (hv : ¬ 281474976710656#64 < v) (hs : ∀ n, n < 8 → ¬ 281474976710656#64 < smV v n + v) : Runs M 138 [W v] [] 0 (fun r H' k' => r = tup2 (.ptr 0 []) (.ptr 1 []) ∧ H' = [(0, ldV (balV v 8) (smV v 8) 0#64 .nils 0#64), (1, dlV (.sl 2 [] 0 8 4)), (2, .ar 4 8 (evV v))] ∧ k' = 3) := by
  refine runs_fr ok.k138 rfl fun x hx => ?_
  have hz : ¬ 281474976710656#64 < 0#64 + v := hs 0 (by decide)
  have hp := runs_PayIn ok.l (fun _ => 0#64) 0#64 0#64 0#64 0 (by decide) v hv hz
  have hd := runs_dDo0 ok.d v hv
  simp only [Int.natCast_zero, evV] at hp hd
  have z1 : IntKind.i64.wrap 1 = 1 := rfl
  refine ex_sound 2000 _ _ _ _ ?_; (simp (maxSteps := 4000000) only [f138, c138, LZ, seval, reduceCtorEq, forall_const])
  refine call_fA (runs_LedNew ok.l) (by decide) (by ((try simp only [ldV, LY, seval, reduceCtorEq, implies_true]); first | done | exact True.intro | rfl)) (by simp only [ldV, LX, implies_true]) (by simp only [ldV, LX, implies_true]) ?_
  (simp (maxSteps := 4000000) only [ldV, LZ, seval, reduceCtorEq, forall_const])
  refine loop_once ?_
  refine ex_sound 2000 _ _ _ _ ?_
  (simp (maxSteps := 4000000) only [LZ, seval, reduceCtorEq, forall_const])
  refine call_mA [32] (hp) (by decide) (by rfl) (by ((try simp only [ldV, LY, seval, reduceCtorEq, implies_true]); first | done | exact True.intro | rfl)) (by ((try simp only [ldV, LY, seval, reduceCtorEq, implies_true]); first | done | exact True.intro | rfl)) (by simp only [ldV, LX, implies_true]) (by simp only [ldV, LX, implies_true]) ?_
  (simp (maxSteps := 4000000) only [ldV, dlV, LZ, seval, reduceCtorEq, forall_const])
  refine call_mA [64] (hd) (by decide) (by rfl) (by ((try simp only [dlV, evV, LY, seval, reduceCtorEq, implies_true]); first | done | exact True.intro | rfl)) (by ((try simp only [dlV, evV, LY, seval, reduceCtorEq, implies_true]); first | done | exact True.intro | rfl)) (by simp only [dlV, evV, LX, implies_true]) (by simp only [dlV, evV, LX, implies_true]) ?_
  (simp (maxSteps := 4000000) only [ldV, dlV, evV, z1, LZ, seval, reduceCtorEq, forall_const])
  refine loop_rule (σ := Nat) (fun n => 1 ≤ n ∧ n ≤ 8) (fun n => fr 30 [(0, W v), (4, .ptr 0 []), (5, .ptr 1 []), (13, .int .i64 n)]) (fun n => [(0, ldV (balV v n) (smV v n) 0#64 .nils 0#64), (1, dlV (.sl 2 [] 0 n 4)), (2, .ar 4 n (evV v))]) (fun _ => 3) (fun n => 8 - n) 1 ⟨by omega, by omega⟩ ?_ ?_
  · refine Weak.fr [32, 64, 352] [] hx (by simp only [fr_length]) (by decide) ?_ ?_
    · simp only [Int.cast_ofNat_Int, LY, seval, reduceCtorEq, implies_true]
    · simp only [ldV, dlV, evV, smV, LY, seval, reduceCtorEq, implies_true]
      intro j hj
      unfold balV
      by_cases h : j = 0
      · rw [if_pos h, if_pos (by omega), BitVec.zero_add]
      · rw [if_neg h, if_neg (by omega)]
  · rintro n ⟨h1, h8⟩
    refine ex_sound 2000 _ _ _ _ ?_
    by_cases hn : n = 8
    · subst hn
      have d0 : (((8 : Nat) : Int) < 8) = False := eq_false (by omega)
      (simp (maxSteps := 4000000) only [ldV, dlV, d0, LZ, seval, reduceCtorEq, forall_const])
      refine RetS.mk hx [0, 1, 2] [] (tup2 (.ptr 0 []) (.ptr 1 [])) [(0, ldV (balV v 8) (smV v 8) 0#64 .nils 0#64), (1, dlV (.sl 2 [] 0 8 4)), (2, .ar 4 8 (evV v))] 3 (by decide) (by (simp only [LV, LZ, seval, reduceCtorEq, forall_const])) (by simp only [LV, tup2, LY, seval, reduceCtorEq, implies_true]) (by simp only [ldV, dlV, evV, LY, seval, reduceCtorEq, implies_true]) ⟨rfl, rfl, rfl⟩
    · have hn : n < 8 := by omega
      have d0 : ((n : Int) < 8) = True := eq_true (by omega)
      have w0 : IntKind.i64.wrap ((n : Int) + 1) = ((n + 1 : Nat) : Int) := by rw [wrap_i64 (by omega)]; omega
      have hp := runs_PayIn ok.l (balV v n) (smV v n) 0#64 0#64 n hn v hv (hs n hn)
      have hd := runs_dDoS ok.d v hv n h1 hn (hs n hn)
      simp only [evV] at hd
      (simp (maxSteps := 4000000) only [ldV, dlV, d0, LZ, seval, reduceCtorEq, forall_const])
      refine call_mA [0] (hp) (by decide) (by rfl) (by ((try simp only [ldV, LY, seval, reduceCtorEq, implies_true]); first | done | exact True.intro | rfl)) (by ((try simp only [ldV, LY, seval, reduceCtorEq, implies_true]); first | done | exact True.intro | rfl)) (by simp only [ldV, LX, implies_true]) (by simp only [ldV, LX, implies_true]) ?_
      (simp (maxSteps := 4000000) only [ldV, dlV, LZ, seval, reduceCtorEq, forall_const])
      refine call_mA [1, 2] (hd) (by decide) (by rfl) (by ((try simp only [dlV, evV, LY, seval, reduceCtorEq, implies_true]); first | done | exact True.intro | rfl)) (by ((try simp only [dlV, evV, LY, seval, reduceCtorEq, implies_true]); first | done | exact True.intro | rfl)) (by simp only [dlV, evV, LX, implies_true]) (by simp only [dlV, evV, LX, implies_true]) ?_
      (simp (maxSteps := 4000000) only [ldV, dlV, evV, w0, LZ, seval, reduceCtorEq, forall_const])
      refine ⟨n + 1, by omega, by omega, by omega, ?_⟩
      refine Weak.fr [0, 1, 195] [] hx (by simp only [fr_length]) (by decide) ?_ ?_
      · simp only [LY, seval, reduceCtorEq, implies_true]
      · simp only [ldV, dlV, evV, smV, LY, seval, reduceCtorEq, implies_true]
        intro j hj
        unfold balV
        by_cases h : j = n
        · rw [if_pos h, if_neg (show ¬ n < n by omega), if_pos (show j < n + 1 by omega), BitVec.zero_add]
        · rw [if_neg h]
          by_cases h2 : j < n
          · rw [if_pos h2, if_pos (show j < n + 1 by omega)]
          · rw [if_neg h2, if_neg (show ¬ j < n + 1 by omega)]
/-- The bits of a byte: the table of math/bits. -/
def len8 : ByteArray := ⟨#[0, 1, 2, 2, 3, 3, 3, 3, 4, 4, 4, 4, 4, 4, 4, 4, 5, 5, 5, 5, 5, 5, 5, 5, 5, 5, 5, 5, 5, 5, 5, 5, 6, 6, 6, 6, 6, 6, 6, 6, 6, 6, 6, 6, 6, 6, 6, 6, 6, 6, 6, 6, 6, 6, 6, 6, 6, 6, 6, 6, 6, 6, 6, 6, 7, 7, 7, 7, 7, 7, 7, 7, 7, 7, 7, 7, 7, 7, 7, 7, 7, 7, 7, 7, 7, 7, 7, 7, 7, 7, 7, 7, 7, 7, 7, 7, 7, 7, 7, 7, 7, 7, 7, 7, 7, 7, 7, 7, 7, 7, 7, 7, 7, 7, 7, 7, 7, 7, 7, 7, 7, 7, 7, 7, 7, 7, 7, 7, 8, 8, 8, 8, 8, 8, 8, 8, 8, 8, 8, 8, 8, 8, 8, 8, 8, 8, 8, 8, 8, 8, 8, 8, 8, 8, 8, 8, 8, 8, 8, 8, 8, 8, 8, 8, 8, 8, 8, 8, 8, 8, 8, 8, 8, 8, 8, 8, 8, 8, 8, 8, 8, 8, 8, 8, 8, 8, 8, 8, 8, 8, 8, 8, 8, 8, 8, 8, 8, 8, 8, 8, 8, 8, 8, 8, 8, 8, 8, 8, 8, 8, 8, 8, 8, 8, 8, 8, 8, 8, 8, 8, 8, 8, 8, 8, 8, 8, 8, 8, 8, 8, 8, 8, 8, 8, 8, 8, 8, 8, 8, 8, 8, 8, 8, 8, 8, 8, 8, 8, 8, 8, 8, 8, 8, 8, 8, 8]⟩
/-- math/bits.Len64 -/
def c259 : LC := (.seq (.reg [A1 2 (.mv (.c (.int .i64 0)))])
 ((.seq ((.seq (.reg [A1 3 (.mv (.t 0)),
  A1 4 (.ari .geq (.t 3) (.c (.int .u64 4294967296)))])
 (.cond (.t 4) ((.seq (.reg [A1 5 (.mv (.t 0)),
  A1 6 (.ari .shr (.t 5) (.c (.int .u64 32))),
  A1 0 (.mv (.t 6))])
 (.reg [A1 2 (.mv (.c (.int .i64 32)))]))) (.skip))))
 ((.seq ((.seq (.reg [A1 7 (.mv (.t 0)),
  A1 8 (.ari .geq (.t 7) (.c (.int .u64 65536)))])
 (.cond (.t 8) ((.seq (.reg [A1 9 (.mv (.t 0)),
  A1 10 (.ari .shr (.t 9) (.c (.int .u64 16))),
  A1 0 (.mv (.t 10))])
 (.reg [A1 11 (.mv (.t 2)),
  A1 12 (.ari .add (.t 11) (.c (.int .i64 16))),
  A1 2 (.mv (.t 12))]))) (.skip))))
 ((.seq ((.seq (.reg [A1 13 (.mv (.t 0)),
  A1 14 (.ari .geq (.t 13) (.c (.int .u64 256)))])
 (.cond (.t 14) ((.seq (.reg [A1 15 (.mv (.t 0)),
  A1 16 (.ari .shr (.t 15) (.c (.int .u64 8))),
  A1 0 (.mv (.t 16))])
 (.reg [A1 17 (.mv (.t 2)),
  A1 18 (.ari .add (.t 17) (.c (.int .i64 8))),
  A1 2 (.mv (.t 18))]))) (.skip))))
 ((.seq (.reg [A1 19 (.mv (.t 2)),
  A1 20 (.mv (.t 0)),
  A1 21 (.conv .u8 (.t 20)),
  A1 22 (.sidx (.c (.str len8)) (.t 21)),
  A1 23 (.conv .i64 (.t 22)),
  A1 24 (.ari .add (.t 19) (.t 23)),
  A1 2 (.mv (.t 24))])
 (.ret))))))))))
def f259 : LF := ⟨c259, 1, 0, 25, [.tmp 2]⟩


structure OkP (M : Seat) : Prop where
  k259 : chkF M 259 f259 = true


def tab8 (i : Nat) : Nat := ((len8[i]?).getD 0).toNat
theorem tab8_ok : ∀ i, i < 256 → tab8 i ≤ 8 ∧ (i ≠ 0 → 1 ≤ tab8 i ∧ 2 ^ (tab8 i - 1) ≤ i ∧ i < 2 ^ tab8 i) := by
  have h : (List.range 256).all (fun i => decide (tab8 i ≤ 8) && (i == 0 || (decide (1 ≤ tab8 i) && decide (2 ^ (tab8 i - 1) ≤ i) && decide (i < 2 ^ tab8 i)))) = true := by kernel_rfl
  intro i hi
  have := List.all_eq_true.1 h i (List.mem_range.2 hi)
  simp only [Bool.and_eq_true, Bool.or_eq_true, beq_iff_eq, decide_eq_true_eq] at this
  exact ⟨this.1, fun h0 => by rcases this.2 with h | h; exact absurd h h0; exact ⟨h.1.1, h.1.2, h.2⟩⟩

def l64a (x : BitVec 64) : Nat × BitVec 64 := if 4294967296#64 ≤ x then (32, x >>> 32) else (0, x)
def l64b (s : Nat × BitVec 64) : Nat × BitVec 64 := if 65536#64 ≤ s.2 then (s.1 + 16, s.2 >>> 16) else s
def l64c (s : Nat × BitVec 64) : Nat × BitVec 64 := if 256#64 ≤ s.2 then (s.1 + 8, s.2 >>> 8) else s
def len64 (x : BitVec 64) : Nat := (l64c (l64b (l64a x))).1 + tab8 (l64c (l64b (l64a x))).2.toNat

theorem len64_in (x : BitVec 64) : ∃ n, (l64c (l64b (l64a x))).1 = n ∧ n ≤ 56 ∧ (l64c (l64b (l64a x))).2.toNat < 256 ∧ x.toNat / 2 ^ n = (l64c (l64b (l64a x))).2.toNat ∧ (x ≠ 0#64 → (l64c (l64b (l64a x))).2.toNat ≠ 0) := by
  have hx := x.isLt
  have hz : x ≠ 0#64 → x.toNat ≠ 0 := fun h h' => h (BitVec.eq_of_toNat_eq (by simpa using h'))
  have e1 : (4294967296#64).toNat = 4294967296 := rfl
  have e2 : (65536#64).toNat = 65536 := rfl
  have e3 : (256#64).toNat = 256 := rfl
  by_cases h1 : 4294967296#64 ≤ x
  all_goals simp only [l64a, h1, if_true, if_false, l64b]
  · have g1 := h1
    rw [BitVec.le_def, e1] at g1
    by_cases h2 : 65536#64 ≤ x >>> 32
    all_goals simp only [h2, if_true, if_false, l64c]
    · have g2 := h2
      rw [BitVec.le_def, e2, BitVec.toNat_ushiftRight, Nat.shiftRight_eq_div_pow] at g2
      by_cases h3 : 256#64 ≤ x >>> 32 >>> 16
      all_goals simp only [h3, if_true, if_false]
      all_goals (have g3 := h3; rw [BitVec.le_def, e3, BitVec.toNat_ushiftRight, Nat.shiftRight_eq_div_pow, BitVec.toNat_ushiftRight, Nat.shiftRight_eq_div_pow] at g3)
      all_goals try simp only [BitVec.toNat_ushiftRight, Nat.shiftRight_eq_div_pow]
      · exact ⟨56, rfl, by omega, by omega, by omega, by omega⟩
      · exact ⟨48, rfl, by omega, by omega, by omega, by omega⟩
    · have g2 := h2
      rw [BitVec.le_def, e2, BitVec.toNat_ushiftRight, Nat.shiftRight_eq_div_pow] at g2
      by_cases h3 : 256#64 ≤ x >>> 32
      all_goals simp only [h3, if_true, if_false]
      all_goals (have g3 := h3; rw [BitVec.le_def, e3, BitVec.toNat_ushiftRight, Nat.shiftRight_eq_div_pow] at g3)
      all_goals try simp only [BitVec.toNat_ushiftRight, Nat.shiftRight_eq_div_pow]
      · exact ⟨40, rfl, by omega, by omega, by omega, by omega⟩
      · exact ⟨32, rfl, by omega, by omega, by omega, by omega⟩
  · have g1 := h1
    rw [BitVec.le_def, e1] at g1
    by_cases h2 : 65536#64 ≤ x
    all_goals simp only [h2, if_true, if_false, l64c]
    · have g2 := h2
      rw [BitVec.le_def, e2] at g2
      by_cases h3 : 256#64 ≤ x >>> 16
      all_goals simp only [h3, if_true, if_false]
      all_goals (have g3 := h3; rw [BitVec.le_def, e3, BitVec.toNat_ushiftRight, Nat.shiftRight_eq_div_pow] at g3)
      all_goals try simp only [BitVec.toNat_ushiftRight, Nat.shiftRight_eq_div_pow]
      · exact ⟨24, rfl, by omega, by omega, by omega, by omega⟩
      · exact ⟨16, rfl, by omega, by omega, by omega, by omega⟩
    · have g2 := h2
      rw [BitVec.le_def, e2] at g2
      by_cases h3 : 256#64 ≤ x
      all_goals simp only [h3, if_true, if_false]
      all_goals (have g3 := h3; rw [BitVec.le_def, e3] at g3)
      all_goals try simp only [BitVec.toNat_ushiftRight, Nat.shiftRight_eq_div_pow]
      · exact ⟨8, rfl, by omega, by omega, by omega, by omega⟩
      · exact ⟨0, rfl, by omega, by omega, by omega, by omega⟩

theorem vsidx_8 (b : BitVec 8) (H : Hp) : vsidx (.str len8) (B b) H = ⟨True, .int .u8 (tab8 b.toNat), H⟩ := by
  have h := b.isLt
  have hs : len8.size = 256 := rfl
  show (⟨_, _, _⟩ : Out) = _
  congr 1
  exact eq_true ⟨by omega, by rw [hs]; omega⟩
theorem wrapn {n : Nat} (h : n < 9223372036854775808) : IntKind.i64.wrap (n : Int) = n := wrap_i64 (by omega)

theorem wrT (k : Int) (y : Nat) (hy : y < 256) (h0 : 0 ≤ k) (h1 : k ≤ 56) : IntKind.i64.wrap (k + (tab8 y : Int)) = k + (tab8 y : Int) := by
  have := (tab8_ok y hy).1
  rw [wrap_i64 (by omega)]

theorem runs_Len64 {M : Seat} (ok : OkP M) (a : BitVec 64) : Runs M 259 [W a] [] 0 (fun r H' k' => r = .int .i64 (len64 a) ∧ H' = [] ∧ k' = 0) := by
  refine runs_fr ok.k259 rfl fun x hx => ?_
  have e32 : (32#64).toNat = 32 := rfl
  have e16 : (16#64).toNat = 16 := rfl
  have e8 : (8#64).toNat = 8 := rfl
  have w0 : IntKind.i64.wrap 0 = 0 := rfl
  have w1 : IntKind.i64.wrap 48 = 48 := rfl
  have w2 : IntKind.i64.wrap 56 = 56 := rfl
  have w3 : IntKind.i64.wrap 40 = 40 := rfl
  have w4 : IntKind.i64.wrap 16 = 16 := rfl
  have w5 : IntKind.i64.wrap 24 = 24 := rfl
  have w6 : IntKind.i64.wrap 8 = 8 := rfl
  have w7 : IntKind.i64.wrap 32 = 32 := rfl
  have hlen := len64_in a
  unfold len64
  have ht : ∀ y : BitVec 64, y.toNat < 256 → ((BitVec.setWidth 8 y).toNat = y.toNat ∧ tab8 y.toNat ≤ 8) := fun y hy => ⟨by rw [BitVec.toNat_setWidth]; omega, (tab8_ok _ hy).1⟩
  by_cases h1 : 4294967296#64 ≤ a
  all_goals simp only [l64a, h1, if_true, if_false, l64b] at hlen ⊢
  · by_cases h2 : 65536#64 ≤ a >>> 32
    all_goals simp only [h2, if_true, if_false, l64c] at hlen ⊢
    · by_cases h3 : 256#64 ≤ a >>> 32 >>> 16
      all_goals simp only [h3, if_true, if_false] at hlen ⊢
      all_goals obtain ⟨n, hn, hn2, hy, -⟩ := hlen
      all_goals obtain ⟨hq, hk⟩ := ht _ hy
      all_goals (refine ex_sound 2000 _ _ _ _ ?_; (simp (maxSteps := 4000000) only [f259, c259, e32, e16, e8, w0, w1, w2, w3, w4, w5, w6, w7, h1, h2, h3, vsidx_8, hq, wrapn (Nat.lt_of_le_of_lt hk (by decide : 8 < 9223372036854775808)), wrT 56 _ hy (by omega) (by omega), wrT 48 _ hy (by omega) (by omega), wrT 40 _ hy (by omega) (by omega), wrT 32 _ hy (by omega) (by omega), wrT 24 _ hy (by omega) (by omega), wrT 16 _ hy (by omega) (by omega), wrT 8 _ hy (by omega) (by omega), Int.zero_add, wrapn (Nat.lt_of_le_of_lt (tab8_ok _ hy).1 (by decide : 8 < 9223372036854775808)), LZ, seval, reduceCtorEq, forall_const]); exact RetS.mkZ hx [] ⟨rfl, rfl, rfl⟩)
    · by_cases h3 : 256#64 ≤ a >>> 32
      all_goals simp only [h3, if_true, if_false] at hlen ⊢
      all_goals obtain ⟨n, hn, hn2, hy, -⟩ := hlen
      all_goals obtain ⟨hq, hk⟩ := ht _ hy
      all_goals (refine ex_sound 2000 _ _ _ _ ?_; (simp (maxSteps := 4000000) only [f259, c259, e32, e16, e8, w0, w1, w2, w3, w4, w5, w6, w7, h1, h2, h3, vsidx_8, hq, wrapn (Nat.lt_of_le_of_lt hk (by decide : 8 < 9223372036854775808)), wrT 56 _ hy (by omega) (by omega), wrT 48 _ hy (by omega) (by omega), wrT 40 _ hy (by omega) (by omega), wrT 32 _ hy (by omega) (by omega), wrT 24 _ hy (by omega) (by omega), wrT 16 _ hy (by omega) (by omega), wrT 8 _ hy (by omega) (by omega), Int.zero_add, wrapn (Nat.lt_of_le_of_lt (tab8_ok _ hy).1 (by decide : 8 < 9223372036854775808)), LZ, seval, reduceCtorEq, forall_const]); exact RetS.mkZ hx [] ⟨rfl, rfl, rfl⟩)
  · by_cases h2 : 65536#64 ≤ a
    all_goals simp only [h2, if_true, if_false, l64c] at hlen ⊢
    · by_cases h3 : 256#64 ≤ a >>> 16
      all_goals simp only [h3, if_true, if_false] at hlen ⊢
      all_goals obtain ⟨n, hn, hn2, hy, -⟩ := hlen
      all_goals obtain ⟨hq, hk⟩ := ht _ hy
      all_goals (refine ex_sound 2000 _ _ _ _ ?_; (simp (maxSteps := 4000000) only [f259, c259, e32, e16, e8, w0, w1, w2, w3, w4, w5, w6, w7, h1, h2, h3, vsidx_8, hq, wrapn (Nat.lt_of_le_of_lt hk (by decide : 8 < 9223372036854775808)), wrT 56 _ hy (by omega) (by omega), wrT 48 _ hy (by omega) (by omega), wrT 40 _ hy (by omega) (by omega), wrT 32 _ hy (by omega) (by omega), wrT 24 _ hy (by omega) (by omega), wrT 16 _ hy (by omega) (by omega), wrT 8 _ hy (by omega) (by omega), Int.zero_add, wrapn (Nat.lt_of_le_of_lt (tab8_ok _ hy).1 (by decide : 8 < 9223372036854775808)), LZ, seval, reduceCtorEq, forall_const]); exact RetS.mkZ hx [] ⟨rfl, rfl, rfl⟩)
    · by_cases h3 : 256#64 ≤ a
      all_goals simp only [h3, if_true, if_false] at hlen ⊢
      all_goals obtain ⟨n, hn, hn2, hy, -⟩ := hlen
      all_goals obtain ⟨hq, hk⟩ := ht _ hy
      all_goals (refine ex_sound 2000 _ _ _ _ ?_; (simp (maxSteps := 4000000) only [f259, c259, e32, e16, e8, w0, w1, w2, w3, w4, w5, w6, w7, h1, h2, h3, vsidx_8, hq, wrapn (Nat.lt_of_le_of_lt hk (by decide : 8 < 9223372036854775808)), wrT 56 _ hy (by omega) (by omega), wrT 48 _ hy (by omega) (by omega), wrT 40 _ hy (by omega) (by omega), wrT 32 _ hy (by omega) (by omega), wrT 24 _ hy (by omega) (by omega), wrT 16 _ hy (by omega) (by omega), wrT 8 _ hy (by omega) (by omega), Int.zero_add, wrapn (Nat.lt_of_le_of_lt (tab8_ok _ hy).1 (by decide : 8 < 9223372036854775808)), LZ, seval, reduceCtorEq, forall_const]); exact RetS.mkZ hx [] ⟨rfl, rfl, rfl⟩)


structure OkPo (M : Seat) : Prop where
  p : OkP M
  k130 : chkF M 130 f130 = true
  k131 : chkF M 131 f131 = true
  k132 : chkF M 132 f132 = true
  k260 : chkF M 260 f260 = true
theorem runs_Parts1 {M : Seat} (ok : OkPo M) : Runs M 130 [W 1#64] [] 0 (fun r H' k' => r = tup3 (.int .i64 0) (W 0#64) .nili ∧ H' = [] ∧ k' = 0) := by
  have h := runs_Len64 ok.p 1#64
  rw [show len64 1#64 = 1 by decide] at h
  refine runs_fr ok.k130 rfl fun x hx => ?_
  have z0 : IntKind.i64.wrap 0 = 0 := rfl
  refine ex_sound 2000 _ _ _ _ ?_; (simp (maxSteps := 4000000) only [f130, c130, LZ, seval, reduceCtorEq, forall_const])
  refine call_pZ (h) ?_
  (simp (maxSteps := 4000000) only [z0, Int.cast_ofNat_Int, LZ, seval, reduceCtorEq, forall_const])
  refine RetS.mk hx [] [] _ _ _ (by decide) (by (simp only [LV, tup3, LZ, seval, reduceCtorEq, forall_const])) (by ((try simp only [LV, tup3, LZ, seval, reduceCtorEq, forall_const, LY, seval, reduceCtorEq, implies_true]); first | done | exact True.intro | (intros; rfl))) (by ((try simp only [tup3, LY, seval, reduceCtorEq, implies_true]); first | done | exact True.intro | (intros; rfl))) ⟨rfl, rfl, rfl⟩
theorem runs_Make1 {M : Seat} (ok : OkPo M) : Runs M 260 [.int .i64 1, W 0#64] [] 0 (fun r H' k' => r = tup2 (W 2#64) .nili ∧ H' = [] ∧ k' = 0) := by
  refine runs_fr ok.k260 rfl fun x hx => ?_
  refine ex_sound 2000 _ _ _ _ ?_; (simp (maxSteps := 4000000) only [f260, c260, LZ, seval, reduceCtorEq, forall_const])
  refine RetS.mk hx [] [] _ _ _ (by decide) (by (simp only [LV, tup2, LZ, seval, reduceCtorEq, forall_const])) (by ((try simp only [LV, tup2, LZ, seval, reduceCtorEq, forall_const, LY, seval, reduceCtorEq, implies_true]); first | done | exact True.intro | (intros; rfl))) (by ((try simp only [tup2, LY, seval, reduceCtorEq, implies_true]); first | done | exact True.intro | (intros; rfl))) ⟨rfl, rfl, rfl⟩
theorem runs_Attack1 {M : Seat} (ok : OkPo M) : Runs M 131 [W 1#64] [] 0 (fun r H' k' => r = tup2 (W 2#64) .nili ∧ H' = [] ∧ k' = 0) := by
  refine runs_fr ok.k131 rfl fun x hx => ?_
  have z1 : IntKind.i64.wrap 1 = 1 := rfl
  refine ex_sound 2000 _ _ _ _ ?_; (simp (maxSteps := 4000000) only [f131, c131, LZ, seval, reduceCtorEq, forall_const])
  refine call_pZ (runs_Parts1 ok) ?_
  (simp (maxSteps := 4000000) only [tup3, z1, LZ, seval, reduceCtorEq, forall_const])
  refine call_pZ (runs_Make1 ok) ?_
  (simp (maxSteps := 4000000) only [tup2, LZ, seval, reduceCtorEq, forall_const])
  refine RetS.mk hx [] [] _ _ _ (by decide) (by (simp only [LV, tup2, LZ, seval, reduceCtorEq, forall_const])) (by ((try simp only [LV, tup2, LZ, seval, reduceCtorEq, forall_const, LY, seval, reduceCtorEq, implies_true]); first | done | exact True.intro | (intros; rfl))) (by ((try simp only [tup2, LY, seval, reduceCtorEq, implies_true]); first | done | exact True.intro | (intros; rfl))) ⟨rfl, rfl, rfl⟩
theorem runs_Defend1 {M : Seat} (ok : OkPo M) : Runs M 132 [W 1#64] [] 0 (fun r H' k' => r = tup2 (W 0#64) (er 45) ∧ H' = [] ∧ k' = 0) := by
  refine runs_fr ok.k132 rfl fun x hx => ?_
  refine ex_sound 2000 _ _ _ _ ?_; (simp (maxSteps := 4000000) only [f132, c132, LZ, seval, reduceCtorEq, forall_const])
  refine call_pZ (runs_Parts1 ok) ?_
  (simp (maxSteps := 4000000) only [tup3, LZ, seval, reduceCtorEq, forall_const])
  refine RetS.mk hx [] [] _ _ _ (by decide) (by (simp only [LV, tup2, LZ, seval, reduceCtorEq, forall_const])) (by ((try simp only [LV, tup2, LZ, seval, reduceCtorEq, forall_const, LY, seval, reduceCtorEq, implies_true]); first | done | exact True.intro | (intros; rfl))) (by ((try simp only [tup2, LY, seval, reduceCtorEq, implies_true]); first | done | exact True.intro | (intros; rfl))) ⟨rfl, rfl, rfl⟩
end Mv
