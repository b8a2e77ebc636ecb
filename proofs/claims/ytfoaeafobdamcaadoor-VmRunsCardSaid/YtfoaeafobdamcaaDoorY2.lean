/- PRE in general. -/
import Derived.Test.YtfoaeafobdamcaaDoorW1
import Derived.Test.YtfoaeafobdamcaaDoorY1
set_option linter.unusedSimpArgs false
set_option linter.unusedVariables false
namespace Mv
open Go
set_option maxRecDepth 20000
set_option maxHeartbeats 4000000
set_option linter.unusedSimpArgs false

abbrev missW : BitVec 64 := 18446744073709551615#64
/-- What the store, the machine and the list of what was asked come to. -/
def pM (f g : Nat → BitVec 64) (pc xt b : BitVec 64) : Option Pr → V
  | some p => mach (fun j => if b.toNat ≤ j ∧ j < b.toNat + 8 then wrd (fun i => p.at (8 * (j - b.toNat) + i)) 8 else f j) g pc false xt
  | none => mach f g pc true missW
def pSN (w : WS) (l : List (Dg × Bool)) (D : Dg) : Bool → Hp
  | true => stoH' w .nils l
  | false => stoH' w (.sl 6 [] 0 1 32) (updL D true l)
def pAN (D : Dg) : Bool → Hp
  | true => []
  | false => [(6, .ar 32 1 fun _ => dg D)]
def pSS (w : WS) (n : Nat) (l : List (Dg × Bool)) (D : Dg) : Bool → Hp
  | true => stoH' w (.sl 6 [] 0 n 32) l
  | false => stoH' w (.sl 7 [] 0 (n + 1) 32) (updL D true l)
def pAS (n : Nat) (q : Nat → Dg) (D : Dg) : Bool → Hp
  | true => [(6, .ar 32 n fun i => dg (q i))]
  | false => [(7, .ar 32 (n + 1) fun i => dg (if i < n then q i else D))]
/-- Was it asked already? -/
def was (l : List (Dg × Bool)) (D : Dg) (b : Bool) : Prop := (b = true ∧ lkp D l = some true) ∨ (b = false ∧ (lkp D l = none ∨ lkp D l = some false))

theorem runs_oraclePN {M : Seat} (okA : OkA M) (ok : OkO M) (w : WS) (l : List (Dg × Bool)) (f g : Nat → BitVec 64) (pc xt : BitVec 64) (a b : BitVec 64) (ha : a.toNat + 4 ≤ 8192) (hb : b.toNat + 8 ≤ 8192) (o : Option Pr) (sn : Bool) (hp : lkp (Dg.mk' (byWs fun j => f (a.toNat + j))) w.pres = o) (hs : was l (Dg.mk' (byWs fun j => f (a.toNat + j))) sn) :
    Runs M 217 [.ptr 5 [], .ptr 0 [], .int .i64 35, W a, W b] (stoH' w .nils l ++ [(5, mach f g pc false xt)]) 6
      (fun r H' k' => r = .bool o.isSome ∧ H' = pSN w l (Dg.mk' (byWs fun j => f (a.toNat + j))) sn ++ (5, pM f g pc xt b o) :: pAN (Dg.mk' (byWs fun j => f (a.toNat + j))) sn ∧ k' = if sn then 6 else 7) := by
  refine runs_fr ok.k217 rfl fun x hx => ?_
  have h1 : (decide (a ≤ 8192#64) && decide (4#64 ≤ 8192#64 - a)) = true := by
    have : a.toNat ≤ 8192 := by omega
    simp only [BitVec.le_def, Bool.and_eq_true, decide_eq_true_eq, BitVec.toNat_sub, BitVec.toNat_ofNat]; omega
  have h2 : (decide (b ≤ 8192#64) && decide (8#64 ≤ 8192#64 - b)) = true := by
    have : b.toNat ≤ 8192 := by omega
    simp only [BitVec.le_def, Bool.and_eq_true, decide_eq_true_eq, BitVec.toNat_sub, BitVec.toNat_ofNat]; omega
  refine ex_sound 2000 _ _ _ _ ?_; (simp (maxSteps := 4000000) only [f217, c217, mach, stoH', stoV, kinV, List.cons_append, List.nil_append, LM, LZ, seval, reduceCtorEq, forall_const])
  refine call_pZ (runs_within ok a 4#64) ?_
  (simp (maxSteps := 4000000) only [h1, LZ, seval, reduceCtorEq, forall_const])
  refine call_pZ (runs_within ok b 8#64) ?_
  (simp (maxSteps := 4000000) only [h2, LZ, seval, reduceCtorEq, forall_const])
  have e8 : (a + 4#64).toNat = a.toNat + 4 := by rw [BitVec.toNat_add, BitVec.toNat_ofNat, Nat.mod_eq_of_lt (a := 4) (by omega), Nat.mod_eq_of_lt (by omega)]
  rw [e8, Nat.add_sub_cancel_left]
  repeat (refine And.intro (by first | omega | exact True.intro | rfl) ?_)
  refine loop_once ?_
  refine ex_sound 2000 _ _ _ _ ?_
  (simp (maxSteps := 4000000) only [LM, LZ, seval, reduceCtorEq, forall_const])
  repeat (refine And.intro (by first | omega | exact True.intro | rfl) ?_)
  refine call_fZ (runs_AddBN okA ok (f (a.toNat + 0))) ?_
  (simp (maxSteps := 4000000) only [LM, LZ, seval, reduceCtorEq, forall_const])
  repeat (refine And.intro (by first | omega | exact True.intro | rfl) ?_)
  have w1 : IntKind.i64.wrap 1 = 1 := by decide
  rw [w1]
  refine loop_rule (σ := Nat) (fun i => 1 ≤ i ∧ i ≤ 4) (fun i => fr 94 [(0, .ptr 5 []), (1, .ptr 0 []), (2, .int .i64 35), (4, W b), (12, W 8#64), (13, .sl 6 [] 0 (8 * i) 1), (43, .sl 5 [Stp.f 0] a.toNat 4 1), (44, .int .i64 4), (45, .int .i64 i)])
    (fun i => stoH' w .nils l ++ [(5, mach f g pc false xt), (6, .ar 1 (8 * i) fun j => B (byWs (fun j => f (a.toNat + j)) j))]) (fun _ => 7) (fun i => 4 - i) 1 (by omega) ?_ ?_
  · refine Weak.fr [0, 1, 2, 3, 4, 5, 550] [] hx (by simp only [fr_length]) (by decide) ?_ ?_
    · simp only [LY, seval, reduceCtorEq, implies_true]
    · simp only [stoH', stoV, kinV, mach, Sim_seen, List.cons_append, List.nil_append, LMS, dg, LY, seval, reduceCtorEq, implies_true]
      intro i hi
      have q1 : i / 8 = 0 := by omega
      have q2 : i % 8 = i := by omega
      simp only [byWs, q1, q2, Nat.add_zero]
  · rintro i ⟨hi1, hi⟩
    refine ex_sound 2000 _ _ _ _ ?_
    by_cases h8 : i = 4
    · subst h8
      (simp (maxSteps := 4000000) only [LM, stoH', stoV, kinV, mach, List.cons_append, List.nil_append, LZ, seval, reduceCtorEq, forall_const])
      repeat (refine And.intro (by first | omega | exact True.intro | rfl) ?_)
      have hP : ∀ j, j < 32 → (Dg.mk' (byWs fun j => f (a.toNat + j))).at j = byWs (fun j => f (a.toNat + j)) j := fun j hj => Dg.at_mk' _ _ hj
      generalize Dg.mk' (byWs fun j => f (a.toNat + j)) = D at *
      rcases hs with ⟨rfl, hn⟩ | ⟨rfl, hn⟩
      · cases o with
        | none =>
          have hG : Runs M 328 [.ptr 0 [], dg D] _ _ _ := runs_GetNold ok w l D _ hp hn
          simp only [getR, tup2] at hG
          refine call_mB [0, 1, 2, 3, 4] [0, 1, 2, 3, 4] (hG) (by rfl) (by rfl) (by decide) (by rfl) (by rfl) (by ((try simp only [stoH', stoV, kinV, Sim_seen, NoIm_seen, dg, LMS, List.cons_append, List.nil_append, LY, seval, reduceCtorEq, implies_true]); first | done | exact True.intro | rfl | (exact fun j hj => (hP j hj).symm))) (by ((try simp only [stoH', stoV, kinV, Sim_seen, NoIm_seen, dg, LMS, List.cons_append, List.nil_append, LY, seval, reduceCtorEq, implies_true]); first | done | exact True.intro | rfl | (exact fun j hj => (hP j hj).symm))) (by simp only [stoH', stoV, kinV, Sim_seen, NoIm_seen, dg, LMS, List.cons_append, List.nil_append, LX, implies_true]) (by simp only [stoH', stoV, kinV, Sim_seen, NoIm_seen, dg, LMS, List.cons_append, List.nil_append, LX, implies_true]) ?_
          (simp (maxSteps := 4000000) only [LM, stoH', stoV, kinV, ren_seen, tup2, prV, Pr.at_zero, List.cons_append, List.nil_append, LZ, seval, reduceCtorEq, forall_const])
          refine call_mA [5] (runs_stop ok.toOkV f g pc false xt missW) (by decide) (by rfl) (by ((try simp only [mach, LY, seval, reduceCtorEq, implies_true]); first | done | exact True.intro | rfl)) (by ((try simp only [mach, LY, seval, reduceCtorEq, implies_true]); first | done | exact True.intro | rfl)) (by simp only [mach, LX, implies_true]) (by simp only [mach, LX, implies_true]) ?_
          (simp (maxSteps := 4000000) only [mach, LM, LZ, seval, reduceCtorEq, forall_const])
          refine RetS.mk hx [0, 1, 2, 3, 4, 5] [] _ _ _ (by decide) (by (simp only [LV, pSN, pAN, pSS, pAS, pM, stoH', stoV, kinV, prV, Sim_seen, LMS, dg, mach, List.cons_append, List.nil_append, LZ, seval, reduceCtorEq, forall_const])) (by ((try simp only [LV, pSN, pAN, pSS, pAS, pM, stoH', stoV, kinV, prV, Sim_seen, LMS, dg, mach, List.cons_append, List.nil_append, LZ, seval, reduceCtorEq, forall_const, LY, seval, reduceCtorEq, implies_true]); first | done | exact True.intro | (intros; rfl))) (by ((try simp only [pSN, pAN, pSS, pAS, pM, stoH', stoV, kinV, prV, Sim_seen, LMS, dg, mach, List.cons_append, List.nil_append, LY, seval, reduceCtorEq, implies_true]); first | done | exact True.intro | (intros; rfl))) ⟨rfl, rfl, rfl⟩
        | some p =>
          have hG : Runs M 328 [.ptr 0 [], dg D] _ _ _ := runs_GetNold ok w l D _ hp hn
          simp only [getR, tup2] at hG
          refine call_mB [0, 1, 2, 3, 4] [0, 1, 2, 3, 4] (hG) (by rfl) (by rfl) (by decide) (by rfl) (by rfl) (by ((try simp only [stoH', stoV, kinV, Sim_seen, NoIm_seen, dg, LMS, List.cons_append, List.nil_append, LY, seval, reduceCtorEq, implies_true]); first | done | exact True.intro | rfl | (exact fun j hj => (hP j hj).symm))) (by ((try simp only [stoH', stoV, kinV, Sim_seen, NoIm_seen, dg, LMS, List.cons_append, List.nil_append, LY, seval, reduceCtorEq, implies_true]); first | done | exact True.intro | rfl | (exact fun j hj => (hP j hj).symm))) (by simp only [stoH', stoV, kinV, Sim_seen, NoIm_seen, dg, LMS, List.cons_append, List.nil_append, LX, implies_true]) (by simp only [stoH', stoV, kinV, Sim_seen, NoIm_seen, dg, LMS, List.cons_append, List.nil_append, LX, implies_true]) ?_
          (simp (maxSteps := 4000000) only [LM, stoH', stoV, kinV, ren_seen, tup2, List.cons_append, List.nil_append, LZ, seval, reduceCtorEq, forall_const])
          refine loop_rule (σ := Nat) (fun i => i ≤ 8) (fun i => fr 94 [(0, .ptr 5 []), (4, W b), (16, .sl 7 [] 0 64 1), (77, W 8#64), (78, W (BitVec.ofNat 64 i))])
            (fun i => stoH' w .nils l ++ [(5, mach (fun j => if b.toNat ≤ j ∧ j < b.toNat + i then wrd (fun i => p.at (8 * (j - b.toNat) + i)) 8 else f j) g pc false xt), (7, prV p)]) (fun _ => 8) (fun i => 8 - i) 0 (by omega) ?_ ?_
          · refine Weak.fr [0, 1, 2, 3, 4, 5, 6, 199] [] hx (by simp only [fr_length]) (by decide) ?_ ?_
            · simp only [LY, seval, reduceCtorEq, implies_true]
            · simp only [stoH', stoV, kinV, mach, Sim_seen, List.cons_append, List.nil_append, LMS, dg, LY, seval, reduceCtorEq, implies_true]
              exact fun i _ => (if_neg (by omega)).symm
          · intro i hi
            refine ex_sound 2000 _ _ _ _ ?_
            by_cases h4 : i = 8
            · subst h4
              (simp (maxSteps := 4000000) only [LM, stoH', stoV, kinV, mach, List.cons_append, List.nil_append, LZ, seval, reduceCtorEq, forall_const])
              refine RetS.mk hx [0, 1, 2, 3, 4, 5] [] _ _ _ (by decide) (by (simp only [LV, pSN, pAN, pSS, pAS, pM, stoH', stoV, kinV, mach, Sim_seen, LMS, dg, List.cons_append, List.nil_append, LZ, seval, reduceCtorEq, forall_const])) (by ((try simp only [LV, pSN, pAN, pSS, pAS, pM, stoH', stoV, kinV, mach, Sim_seen, LMS, dg, List.cons_append, List.nil_append, LZ, seval, reduceCtorEq, forall_const, LY, seval, reduceCtorEq, implies_true]); first | done | exact True.intro | (intros; rfl))) (by ((try simp only [pSN, pAN, pSS, pAS, pM, stoH', stoV, kinV, mach, Sim_seen, LMS, dg, List.cons_append, List.nil_append, LY, seval, reduceCtorEq, implies_true]); first | done | exact True.intro | (intros; rfl))) ⟨rfl, rfl, rfl⟩
            · have t1 : (BitVec.ofNat 64 i).toNat = i := by rw [BitVec.toNat_ofNat, Nat.mod_eq_of_lt (by omega)]
              have d0 : (BitVec.ofNat 64 i < 8#64) = True := eq_true (by rw [BitVec.lt_def, t1]; show i < 8; omega)
              have t2 : (8#64 * BitVec.ofNat 64 i).toNat = 8 * i := by rw [BitVec.toNat_mul, t1]; show 8 * i % _ = _; omega
              have t3 : (b + BitVec.ofNat 64 i).toNat = b.toNat + i := by rw [BitVec.toNat_add, t1]; omega
              have t4 : BitVec.ofNat 64 i + 1#64 = BitVec.ofNat 64 (i + 1) := by apply BitVec.eq_of_toNat_eq; rw [BitVec.toNat_add, t1, BitVec.toNat_ofNat, BitVec.toNat_ofNat]
              (simp (maxSteps := 4000000) only [d0, t2, t3, t4, LM, stoH', stoV, kinV, mach, List.cons_append, List.nil_append, LZ, seval, reduceCtorEq, forall_const])
              repeat (refine And.intro (by first | omega | exact True.intro | rfl) ?_)
              refine opd_pA (runs_Word ok (64 - 8 * i) (by omega) (fun j => p.at (8 * i + j))) (by ((try simp only [prV, LMS, LY, seval, reduceCtorEq, implies_true]); first | done | exact True.intro | rfl | ((show 8 * i + (64 - 8 * i) ≤ 64; omega)))) (by first | rfl | (simp only [LN, LP, V.ren, tup2, tup3])) (by simp only [prV, LMS, LX, implies_true]) ?_
              (simp (maxSteps := 4000000) only [t2, t3, t4, LM, LZ, seval, reduceCtorEq, forall_const])
              repeat (refine And.intro (by first | omega | exact True.intro | rfl) ?_)
              refine ⟨i + 1, by omega, by omega, ?_⟩
              refine Weak.fr [0, 1, 2, 3, 4, 5, 6, 7] [] hx (by simp only [fr_length]) (by decide) ?_ ?_
              · simp only [LY, seval, reduceCtorEq, implies_true]
              · simp only [Sim_seen, LMS, dg, LY, seval, reduceCtorEq, implies_true]
                intro q hq
                by_cases e : q = b.toNat + i
                · subst e
                  rw [if_pos rfl, if_pos (by omega), Nat.add_sub_cancel_left]; simp only [W, LY, seval, reduceCtorEq, implies_true]
                · rw [if_neg e]
                  by_cases e2 : b.toNat ≤ q ∧ q < b.toNat + i
                  · rw [if_pos (by omega), if_pos e2]; simp only [W, LY, seval, reduceCtorEq, implies_true]
                  · rw [if_neg (by omega), if_neg e2]; simp only [W, LY, seval, reduceCtorEq, implies_true]
      · cases o with
        | none =>
          have hG : Runs M 328 [.ptr 0 [], dg D] _ _ _ := runs_GetNnew ok w l D _ hp hn
          simp only [getR, tup2] at hG
          refine call_mB [0, 1, 2, 3, 4] [0, 1, 2, 3, 4] (hG) (by rfl) (by rfl) (by decide) (by rfl) (by rfl) (by ((try simp only [stoH', stoV, kinV, Sim_seen, NoIm_seen, dg, LMS, List.cons_append, List.nil_append, LY, seval, reduceCtorEq, implies_true]); first | done | exact True.intro | rfl | (exact fun j hj => (hP j hj).symm))) (by ((try simp only [stoH', stoV, kinV, Sim_seen, NoIm_seen, dg, LMS, List.cons_append, List.nil_append, LY, seval, reduceCtorEq, implies_true]); first | done | exact True.intro | rfl | (exact fun j hj => (hP j hj).symm))) (by simp only [stoH', stoV, kinV, Sim_seen, NoIm_seen, dg, LMS, List.cons_append, List.nil_append, LX, implies_true]) (by simp only [stoH', stoV, kinV, Sim_seen, NoIm_seen, dg, LMS, List.cons_append, List.nil_append, LX, implies_true]) ?_
          (simp (maxSteps := 4000000) only [LM, stoH', stoV, kinV, ren_seen, tup2, prV, Pr.at_zero, List.cons_append, List.nil_append, LZ, seval, reduceCtorEq, forall_const])
          refine call_mA [5] (runs_stop ok.toOkV f g pc false xt missW) (by decide) (by rfl) (by ((try simp only [mach, LY, seval, reduceCtorEq, implies_true]); first | done | exact True.intro | rfl)) (by ((try simp only [mach, LY, seval, reduceCtorEq, implies_true]); first | done | exact True.intro | rfl)) (by simp only [mach, LX, implies_true]) (by simp only [mach, LX, implies_true]) ?_
          (simp (maxSteps := 4000000) only [mach, LM, LZ, seval, reduceCtorEq, forall_const])
          refine RetS.mk hx [0, 1, 2, 3, 4, 5, 135] [] _ _ _ (by decide) (by (simp only [LV, pSN, pAN, pSS, pAS, pM, stoH', stoV, kinV, prV, Sim_seen, LMS, dg, mach, List.cons_append, List.nil_append, LZ, seval, reduceCtorEq, forall_const])) (by ((try simp only [LV, pSN, pAN, pSS, pAS, pM, stoH', stoV, kinV, prV, Sim_seen, LMS, dg, mach, List.cons_append, List.nil_append, LZ, seval, reduceCtorEq, forall_const, LY, seval, reduceCtorEq, implies_true]); first | done | exact True.intro | (intros; rfl))) (by ((try simp only [pSN, pAN, pSS, pAS, pM, stoH', stoV, kinV, prV, Sim_seen, LMS, dg, mach, List.cons_append, List.nil_append, LY, seval, reduceCtorEq, implies_true]); first | done | exact True.intro | (intros; rfl))) ⟨rfl, rfl, rfl⟩
        | some p =>
          have hG : Runs M 328 [.ptr 0 [], dg D] _ _ _ := runs_GetNnew ok w l D _ hp hn
          simp only [getR, tup2] at hG
          refine call_mB [0, 1, 2, 3, 4] [0, 1, 2, 3, 4] (hG) (by rfl) (by rfl) (by decide) (by rfl) (by rfl) (by ((try simp only [stoH', stoV, kinV, Sim_seen, NoIm_seen, dg, LMS, List.cons_append, List.nil_append, LY, seval, reduceCtorEq, implies_true]); first | done | exact True.intro | rfl | (exact fun j hj => (hP j hj).symm))) (by ((try simp only [stoH', stoV, kinV, Sim_seen, NoIm_seen, dg, LMS, List.cons_append, List.nil_append, LY, seval, reduceCtorEq, implies_true]); first | done | exact True.intro | rfl | (exact fun j hj => (hP j hj).symm))) (by simp only [stoH', stoV, kinV, Sim_seen, NoIm_seen, dg, LMS, List.cons_append, List.nil_append, LX, implies_true]) (by simp only [stoH', stoV, kinV, Sim_seen, NoIm_seen, dg, LMS, List.cons_append, List.nil_append, LX, implies_true]) ?_
          (simp (maxSteps := 4000000) only [LM, stoH', stoV, kinV, ren_seen, tup2, List.cons_append, List.nil_append, LZ, seval, reduceCtorEq, forall_const])
          refine loop_rule (σ := Nat) (fun i => i ≤ 8) (fun i => fr 94 [(0, .ptr 5 []), (4, W b), (16, .sl 7 [] 0 64 1), (77, W 8#64), (78, W (BitVec.ofNat 64 i))])
            (fun i => stoH' w (.sl 6 [] 0 1 32) (updL D true l) ++ [(5, mach (fun j => if b.toNat ≤ j ∧ j < b.toNat + i then wrd (fun i => p.at (8 * (j - b.toNat) + i)) 8 else f j) g pc false xt), (6, .ar 32 1 fun _ => dg D), (7, prV p)]) (fun _ => 8) (fun i => 8 - i) 0 (by omega) ?_ ?_
          · refine Weak.fr [0, 1, 2, 3, 4, 5, 135, 199] [] hx (by simp only [fr_length]) (by decide) ?_ ?_
            · simp only [LY, seval, reduceCtorEq, implies_true]
            · simp only [stoH', stoV, kinV, mach, Sim_seen, List.cons_append, List.nil_append, LMS, dg, LY, seval, reduceCtorEq, implies_true]
              exact fun i _ => (if_neg (by omega)).symm
          · intro i hi
            refine ex_sound 2000 _ _ _ _ ?_
            by_cases h4 : i = 8
            · subst h4
              (simp (maxSteps := 4000000) only [LM, stoH', stoV, kinV, mach, List.cons_append, List.nil_append, LZ, seval, reduceCtorEq, forall_const])
              refine RetS.mk hx [0, 1, 2, 3, 4, 5, 6] [] _ _ _ (by decide) (by (simp only [LV, pSN, pAN, pSS, pAS, pM, stoH', stoV, kinV, mach, Sim_seen, LMS, dg, List.cons_append, List.nil_append, LZ, seval, reduceCtorEq, forall_const])) (by ((try simp only [LV, pSN, pAN, pSS, pAS, pM, stoH', stoV, kinV, mach, Sim_seen, LMS, dg, List.cons_append, List.nil_append, LZ, seval, reduceCtorEq, forall_const, LY, seval, reduceCtorEq, implies_true]); first | done | exact True.intro | (intros; rfl))) (by ((try simp only [pSN, pAN, pSS, pAS, pM, stoH', stoV, kinV, mach, Sim_seen, LMS, dg, List.cons_append, List.nil_append, LY, seval, reduceCtorEq, implies_true]); first | done | exact True.intro | (intros; rfl))) ⟨rfl, rfl, rfl⟩
            · have t1 : (BitVec.ofNat 64 i).toNat = i := by rw [BitVec.toNat_ofNat, Nat.mod_eq_of_lt (by omega)]
              have d0 : (BitVec.ofNat 64 i < 8#64) = True := eq_true (by rw [BitVec.lt_def, t1]; show i < 8; omega)
              have t2 : (8#64 * BitVec.ofNat 64 i).toNat = 8 * i := by rw [BitVec.toNat_mul, t1]; show 8 * i % _ = _; omega
              have t3 : (b + BitVec.ofNat 64 i).toNat = b.toNat + i := by rw [BitVec.toNat_add, t1]; omega
              have t4 : BitVec.ofNat 64 i + 1#64 = BitVec.ofNat 64 (i + 1) := by apply BitVec.eq_of_toNat_eq; rw [BitVec.toNat_add, t1, BitVec.toNat_ofNat, BitVec.toNat_ofNat]
              (simp (maxSteps := 4000000) only [d0, t2, t3, t4, LM, stoH', stoV, kinV, mach, List.cons_append, List.nil_append, LZ, seval, reduceCtorEq, forall_const])
              repeat (refine And.intro (by first | omega | exact True.intro | rfl) ?_)
              refine opd_pA (runs_Word ok (64 - 8 * i) (by omega) (fun j => p.at (8 * i + j))) (by ((try simp only [prV, LMS, LY, seval, reduceCtorEq, implies_true]); first | done | exact True.intro | rfl | ((show 8 * i + (64 - 8 * i) ≤ 64; omega)))) (by first | rfl | (simp only [LN, LP, V.ren, tup2, tup3])) (by simp only [prV, LMS, LX, implies_true]) ?_
              (simp (maxSteps := 4000000) only [t2, t3, t4, LM, LZ, seval, reduceCtorEq, forall_const])
              repeat (refine And.intro (by first | omega | exact True.intro | rfl) ?_)
              refine ⟨i + 1, by omega, by omega, ?_⟩
              refine Weak.fr [0, 1, 2, 3, 4, 5, 6, 7] [] hx (by simp only [fr_length]) (by decide) ?_ ?_
              · simp only [LY, seval, reduceCtorEq, implies_true]
              · simp only [Sim_seen, LMS, dg, LY, seval, reduceCtorEq, implies_true]
                intro q hq
                by_cases e : q = b.toNat + i
                · subst e
                  rw [if_pos rfl, if_pos (by omega), Nat.add_sub_cancel_left]; simp only [W, LY, seval, reduceCtorEq, implies_true]
                · rw [if_neg e]
                  by_cases e2 : b.toNat ≤ q ∧ q < b.toNat + i
                  · rw [if_pos (by omega), if_pos e2]; simp only [W, LY, seval, reduceCtorEq, implies_true]
                  · rw [if_neg (by omega), if_neg e2]; simp only [W, LY, seval, reduceCtorEq, implies_true]
    · have d0 : ((i : Int) < 4) = True := eq_true (by omega)
      have w0 : IntKind.i64.wrap ((i : Int) + 1) = ((i + 1 : Nat) : Int) := by rw [wrap_i64 (by omega)]; omega
      have n0 : (0 : Int) ≤ (i : Int) := by omega
      (simp (maxSteps := 4000000) only [d0, w0, LM, stoH', stoV, kinV, mach, List.cons_append, List.nil_append, LZ, seval, reduceCtorEq, forall_const])
      repeat (refine And.intro (by first | omega | exact True.intro | rfl) ?_)
      refine call_mA [6] (runs_AddBS okA ok (8 * i) (by omega) (byWs fun j => f (a.toNat + j)) (f (a.toNat + i))) (by decide) (by rfl) (by ((try simp only [LMS, LY, seval, reduceCtorEq, implies_true]); first | done | exact True.intro | rfl)) (by ((try simp only [LMS, LY, seval, reduceCtorEq, implies_true]); first | done | exact True.intro | rfl)) (by simp only [LMS, LX, implies_true]) (by simp only [LMS, LX, implies_true]) ?_
      (simp (maxSteps := 4000000) only [LM, w0, LZ, seval, reduceCtorEq, forall_const])
      repeat (refine And.intro (by first | omega | exact True.intro | rfl) ?_)
      refine ⟨i + 1, by omega, by omega, by omega, ?_⟩
      have e88 : 8 * (i + 1) = 8 * i + 8 := by omega
      rw [e88]
      refine Weak.fr [0, 1, 2, 3, 4, 5, 103] [] hx (by simp only [fr_length]) (by decide) ?_ ?_
      · simp only [LY, seval, reduceCtorEq, implies_true]
      · simp only [Sim_seen, LMS, dg, LY, seval, reduceCtorEq, implies_true]
        intro q hq
        by_cases e : q < 8 * i
        · rw [if_pos e]
        · have e1 : q / 8 = i := by omega
          have e2 : q % 8 = q - 8 * i := by omega
          rw [if_neg e, byWs, e1, e2]

theorem runs_oraclePS {M : Seat} (okA : OkA M) (ok : OkO M) (w : WS) (n : Nat) (hn40 : n < 1099511627776) (q : Nat → Dg) (l : List (Dg × Bool)) (f g : Nat → BitVec 64) (pc xt : BitVec 64) (a b : BitVec 64) (ha : a.toNat + 4 ≤ 8192) (hb : b.toNat + 8 ≤ 8192) (o : Option Pr) (sn : Bool) (hp : lkp (Dg.mk' (byWs fun j => f (a.toNat + j))) w.pres = o) (hs : was l (Dg.mk' (byWs fun j => f (a.toNat + j))) sn) :
    Runs M 217 [.ptr 5 [], .ptr 0 [], .int .i64 35, W a, W b] (stoH' w (.sl 6 [] 0 n 32) l ++ [(5, mach f g pc false xt), (6, .ar 32 n fun i => dg (q i))]) 7
      (fun r H' k' => r = .bool o.isSome ∧ H' = pSS w n l (Dg.mk' (byWs fun j => f (a.toNat + j))) sn ++ (5, pM f g pc xt b o) :: pAS n q (Dg.mk' (byWs fun j => f (a.toNat + j))) sn ∧ k' = if sn then 7 else 8) := by
  refine runs_fr ok.k217 rfl fun x hx => ?_
  have h1 : (decide (a ≤ 8192#64) && decide (4#64 ≤ 8192#64 - a)) = true := by
    have : a.toNat ≤ 8192 := by omega
    simp only [BitVec.le_def, Bool.and_eq_true, decide_eq_true_eq, BitVec.toNat_sub, BitVec.toNat_ofNat]; omega
  have h2 : (decide (b ≤ 8192#64) && decide (8#64 ≤ 8192#64 - b)) = true := by
    have : b.toNat ≤ 8192 := by omega
    simp only [BitVec.le_def, Bool.and_eq_true, decide_eq_true_eq, BitVec.toNat_sub, BitVec.toNat_ofNat]; omega
  refine ex_sound 2000 _ _ _ _ ?_; (simp (maxSteps := 4000000) only [f217, c217, mach, stoH', stoV, kinV, List.cons_append, List.nil_append, LM, LZ, seval, reduceCtorEq, forall_const])
  refine call_pZ (runs_within ok a 4#64) ?_
  (simp (maxSteps := 4000000) only [h1, LZ, seval, reduceCtorEq, forall_const])
  refine call_pZ (runs_within ok b 8#64) ?_
  (simp (maxSteps := 4000000) only [h2, LZ, seval, reduceCtorEq, forall_const])
  have e8 : (a + 4#64).toNat = a.toNat + 4 := by rw [BitVec.toNat_add, BitVec.toNat_ofNat, Nat.mod_eq_of_lt (a := 4) (by omega), Nat.mod_eq_of_lt (by omega)]
  rw [e8, Nat.add_sub_cancel_left]
  repeat (refine And.intro (by first | omega | exact True.intro | rfl) ?_)
  refine loop_once ?_
  refine ex_sound 2000 _ _ _ _ ?_
  (simp (maxSteps := 4000000) only [LM, LZ, seval, reduceCtorEq, forall_const])
  repeat (refine And.intro (by first | omega | exact True.intro | rfl) ?_)
  refine call_fZ (runs_AddBN okA ok (f (a.toNat + 0))) ?_
  (simp (maxSteps := 4000000) only [LM, LZ, seval, reduceCtorEq, forall_const])
  repeat (refine And.intro (by first | omega | exact True.intro | rfl) ?_)
  have w1 : IntKind.i64.wrap 1 = 1 := by decide
  rw [w1]
  refine loop_rule (σ := Nat) (fun i => 1 ≤ i ∧ i ≤ 4) (fun i => fr 94 [(0, .ptr 5 []), (1, .ptr 0 []), (2, .int .i64 35), (4, W b), (12, W 8#64), (13, .sl 7 [] 0 (8 * i) 1), (43, .sl 5 [Stp.f 0] a.toNat 4 1), (44, .int .i64 4), (45, .int .i64 i)])
    (fun i => stoH' w (.sl 6 [] 0 n 32) l ++ [(5, mach f g pc false xt), (6, .ar 32 n fun i => dg (q i)), (7, .ar 1 (8 * i) fun j => B (byWs (fun j => f (a.toNat + j)) j))]) (fun _ => 8) (fun i => 4 - i) 1 (by omega) ?_ ?_
  · refine Weak.fr [0, 1, 2, 3, 4, 5, 6, 551] [] hx (by simp only [fr_length]) (by decide) ?_ ?_
    · simp only [LY, seval, reduceCtorEq, implies_true]
    · simp only [stoH', stoV, kinV, mach, Sim_seen, List.cons_append, List.nil_append, LMS, dg, LY, seval, reduceCtorEq, implies_true]
      intro i hi
      have q1 : i / 8 = 0 := by omega
      have q2 : i % 8 = i := by omega
      simp only [byWs, q1, q2, Nat.add_zero]
  · rintro i ⟨hi1, hi⟩
    refine ex_sound 2000 _ _ _ _ ?_
    by_cases h8 : i = 4
    · subst h8
      (simp (maxSteps := 4000000) only [LM, stoH', stoV, kinV, mach, List.cons_append, List.nil_append, LZ, seval, reduceCtorEq, forall_const])
      repeat (refine And.intro (by first | omega | exact True.intro | rfl) ?_)
      have hP : ∀ j, j < 32 → (Dg.mk' (byWs fun j => f (a.toNat + j))).at j = byWs (fun j => f (a.toNat + j)) j := fun j hj => Dg.at_mk' _ _ hj
      generalize Dg.mk' (byWs fun j => f (a.toNat + j)) = D at *
      rcases hs with ⟨rfl, hn⟩ | ⟨rfl, hn⟩
      · cases o with
        | none =>
          have hG : Runs M 328 [.ptr 0 [], dg D] _ _ _ := runs_GetSold ok w n q l D _ hp hn
          simp only [getR, tup2] at hG
          refine call_mB [0, 1, 2, 3, 4, 6] [0, 1, 2, 3, 4, 6] (hG) (by rfl) (by rfl) (by decide) (by rfl) (by rfl) (by ((try simp only [stoH', stoV, kinV, Sim_seen, NoIm_seen, dg, LMS, List.cons_append, List.nil_append, LY, seval, reduceCtorEq, implies_true]); first | done | exact True.intro | rfl | (exact fun j hj => (hP j hj).symm))) (by ((try simp only [stoH', stoV, kinV, Sim_seen, NoIm_seen, dg, LMS, List.cons_append, List.nil_append, LY, seval, reduceCtorEq, implies_true]); first | done | exact True.intro | rfl | (exact fun j hj => (hP j hj).symm))) (by simp only [stoH', stoV, kinV, Sim_seen, NoIm_seen, dg, LMS, List.cons_append, List.nil_append, LX, implies_true]) (by simp only [stoH', stoV, kinV, Sim_seen, NoIm_seen, dg, LMS, List.cons_append, List.nil_append, LX, implies_true]) ?_
          (simp (maxSteps := 4000000) only [LM, stoH', stoV, kinV, ren_seen, tup2, prV, Pr.at_zero, List.cons_append, List.nil_append, LZ, seval, reduceCtorEq, forall_const])
          refine call_mA [5] (runs_stop ok.toOkV f g pc false xt missW) (by decide) (by rfl) (by ((try simp only [mach, LY, seval, reduceCtorEq, implies_true]); first | done | exact True.intro | rfl)) (by ((try simp only [mach, LY, seval, reduceCtorEq, implies_true]); first | done | exact True.intro | rfl)) (by simp only [mach, LX, implies_true]) (by simp only [mach, LX, implies_true]) ?_
          (simp (maxSteps := 4000000) only [mach, LM, LZ, seval, reduceCtorEq, forall_const])
          refine RetS.mk hx [0, 1, 2, 3, 4, 5, 6] [] _ _ _ (by decide) (by (simp only [LV, pSN, pAN, pSS, pAS, pM, stoH', stoV, kinV, prV, Sim_seen, LMS, dg, mach, List.cons_append, List.nil_append, LZ, seval, reduceCtorEq, forall_const])) (by ((try simp only [LV, pSN, pAN, pSS, pAS, pM, stoH', stoV, kinV, prV, Sim_seen, LMS, dg, mach, List.cons_append, List.nil_append, LZ, seval, reduceCtorEq, forall_const, LY, seval, reduceCtorEq, implies_true]); first | done | exact True.intro | (intros; rfl))) (by ((try simp only [pSN, pAN, pSS, pAS, pM, stoH', stoV, kinV, prV, Sim_seen, LMS, dg, mach, List.cons_append, List.nil_append, LY, seval, reduceCtorEq, implies_true]); first | done | exact True.intro | (intros; rfl))) ⟨rfl, rfl, rfl⟩
        | some p =>
          have hG : Runs M 328 [.ptr 0 [], dg D] _ _ _ := runs_GetSold ok w n q l D _ hp hn
          simp only [getR, tup2] at hG
          refine call_mB [0, 1, 2, 3, 4, 6] [0, 1, 2, 3, 4, 6] (hG) (by rfl) (by rfl) (by decide) (by rfl) (by rfl) (by ((try simp only [stoH', stoV, kinV, Sim_seen, NoIm_seen, dg, LMS, List.cons_append, List.nil_append, LY, seval, reduceCtorEq, implies_true]); first | done | exact True.intro | rfl | (exact fun j hj => (hP j hj).symm))) (by ((try simp only [stoH', stoV, kinV, Sim_seen, NoIm_seen, dg, LMS, List.cons_append, List.nil_append, LY, seval, reduceCtorEq, implies_true]); first | done | exact True.intro | rfl | (exact fun j hj => (hP j hj).symm))) (by simp only [stoH', stoV, kinV, Sim_seen, NoIm_seen, dg, LMS, List.cons_append, List.nil_append, LX, implies_true]) (by simp only [stoH', stoV, kinV, Sim_seen, NoIm_seen, dg, LMS, List.cons_append, List.nil_append, LX, implies_true]) ?_
          (simp (maxSteps := 4000000) only [LM, stoH', stoV, kinV, ren_seen, tup2, List.cons_append, List.nil_append, LZ, seval, reduceCtorEq, forall_const])
          refine loop_rule (σ := Nat) (fun i => i ≤ 8) (fun i => fr 94 [(0, .ptr 5 []), (4, W b), (16, .sl 8 [] 0 64 1), (77, W 8#64), (78, W (BitVec.ofNat 64 i))])
            (fun i => stoH' w (.sl 6 [] 0 n 32) l ++ [(5, mach (fun j => if b.toNat ≤ j ∧ j < b.toNat + i then wrd (fun i => p.at (8 * (j - b.toNat) + i)) 8 else f j) g pc false xt), (6, .ar 32 n fun i => dg (q i)), (8, prV p)]) (fun _ => 9) (fun i => 8 - i) 0 (by omega) ?_ ?_
          · refine Weak.fr [0, 1, 2, 3, 4, 5, 6, 7, 200] [] hx (by simp only [fr_length]) (by decide) ?_ ?_
            · simp only [LY, seval, reduceCtorEq, implies_true]
            · simp only [stoH', stoV, kinV, mach, Sim_seen, List.cons_append, List.nil_append, LMS, dg, LY, seval, reduceCtorEq, implies_true]
              exact fun i _ => (if_neg (by omega)).symm
          · intro i hi
            refine ex_sound 2000 _ _ _ _ ?_
            by_cases h4 : i = 8
            · subst h4
              (simp (maxSteps := 4000000) only [LM, stoH', stoV, kinV, mach, List.cons_append, List.nil_append, LZ, seval, reduceCtorEq, forall_const])
              refine RetS.mk hx [0, 1, 2, 3, 4, 5, 6] [] _ _ _ (by decide) (by (simp only [LV, pSN, pAN, pSS, pAS, pM, stoH', stoV, kinV, mach, Sim_seen, LMS, dg, List.cons_append, List.nil_append, LZ, seval, reduceCtorEq, forall_const])) (by ((try simp only [LV, pSN, pAN, pSS, pAS, pM, stoH', stoV, kinV, mach, Sim_seen, LMS, dg, List.cons_append, List.nil_append, LZ, seval, reduceCtorEq, forall_const, LY, seval, reduceCtorEq, implies_true]); first | done | exact True.intro | (intros; rfl))) (by ((try simp only [pSN, pAN, pSS, pAS, pM, stoH', stoV, kinV, mach, Sim_seen, LMS, dg, List.cons_append, List.nil_append, LY, seval, reduceCtorEq, implies_true]); first | done | exact True.intro | (intros; rfl))) ⟨rfl, rfl, rfl⟩
            · have t1 : (BitVec.ofNat 64 i).toNat = i := by rw [BitVec.toNat_ofNat, Nat.mod_eq_of_lt (by omega)]
              have d0 : (BitVec.ofNat 64 i < 8#64) = True := eq_true (by rw [BitVec.lt_def, t1]; show i < 8; omega)
              have t2 : (8#64 * BitVec.ofNat 64 i).toNat = 8 * i := by rw [BitVec.toNat_mul, t1]; show 8 * i % _ = _; omega
              have t3 : (b + BitVec.ofNat 64 i).toNat = b.toNat + i := by rw [BitVec.toNat_add, t1]; omega
              have t4 : BitVec.ofNat 64 i + 1#64 = BitVec.ofNat 64 (i + 1) := by apply BitVec.eq_of_toNat_eq; rw [BitVec.toNat_add, t1, BitVec.toNat_ofNat, BitVec.toNat_ofNat]
              (simp (maxSteps := 4000000) only [d0, t2, t3, t4, LM, stoH', stoV, kinV, mach, List.cons_append, List.nil_append, LZ, seval, reduceCtorEq, forall_const])
              repeat (refine And.intro (by first | omega | exact True.intro | rfl) ?_)
              refine opd_pA (runs_Word ok (64 - 8 * i) (by omega) (fun j => p.at (8 * i + j))) (by ((try simp only [prV, LMS, LY, seval, reduceCtorEq, implies_true]); first | done | exact True.intro | rfl | ((show 8 * i + (64 - 8 * i) ≤ 64; omega)))) (by first | rfl | (simp only [LN, LP, V.ren, tup2, tup3])) (by simp only [prV, LMS, LX, implies_true]) ?_
              (simp (maxSteps := 4000000) only [t2, t3, t4, LM, LZ, seval, reduceCtorEq, forall_const])
              repeat (refine And.intro (by first | omega | exact True.intro | rfl) ?_)
              refine ⟨i + 1, by omega, by omega, ?_⟩
              refine Weak.fr [0, 1, 2, 3, 4, 5, 6, 7, 8] [] hx (by simp only [fr_length]) (by decide) ?_ ?_
              · simp only [LY, seval, reduceCtorEq, implies_true]
              · simp only [Sim_seen, LMS, dg, LY, seval, reduceCtorEq, implies_true]
                intro q hq
                by_cases e : q = b.toNat + i
                · subst e
                  rw [if_pos rfl, if_pos (by omega), Nat.add_sub_cancel_left]; simp only [W, LY, seval, reduceCtorEq, implies_true]
                · rw [if_neg e]
                  by_cases e2 : b.toNat ≤ q ∧ q < b.toNat + i
                  · rw [if_pos (by omega), if_pos e2]; simp only [W, LY, seval, reduceCtorEq, implies_true]
                  · rw [if_neg (by omega), if_neg e2]; simp only [W, LY, seval, reduceCtorEq, implies_true]
      · cases o with
        | none =>
          have hG : Runs M 328 [.ptr 0 [], dg D] _ _ _ := runs_GetSnew ok w n hn40 q l D _ hp hn
          simp only [getR, tup2] at hG
          refine call_mB [0, 1, 2, 3, 4, 6] [0, 1, 2, 3, 4, 6] (hG) (by rfl) (by rfl) (by decide) (by rfl) (by rfl) (by ((try simp only [stoH', stoV, kinV, Sim_seen, NoIm_seen, dg, LMS, List.cons_append, List.nil_append, LY, seval, reduceCtorEq, implies_true]); first | done | exact True.intro | rfl | (exact fun j hj => (hP j hj).symm))) (by ((try simp only [stoH', stoV, kinV, Sim_seen, NoIm_seen, dg, LMS, List.cons_append, List.nil_append, LY, seval, reduceCtorEq, implies_true]); first | done | exact True.intro | rfl | (exact fun j hj => (hP j hj).symm))) (by simp only [stoH', stoV, kinV, Sim_seen, NoIm_seen, dg, LMS, List.cons_append, List.nil_append, LX, implies_true]) (by simp only [stoH', stoV, kinV, Sim_seen, NoIm_seen, dg, LMS, List.cons_append, List.nil_append, LX, implies_true]) ?_
          (simp (maxSteps := 4000000) only [LM, stoH', stoV, kinV, ren_seen, tup2, prV, Pr.at_zero, List.cons_append, List.nil_append, LZ, seval, reduceCtorEq, forall_const])
          refine call_mA [5] (runs_stop ok.toOkV f g pc false xt missW) (by decide) (by rfl) (by ((try simp only [mach, LY, seval, reduceCtorEq, implies_true]); first | done | exact True.intro | rfl)) (by ((try simp only [mach, LY, seval, reduceCtorEq, implies_true]); first | done | exact True.intro | rfl)) (by simp only [mach, LX, implies_true]) (by simp only [mach, LX, implies_true]) ?_
          (simp (maxSteps := 4000000) only [mach, LM, LZ, seval, reduceCtorEq, forall_const])
          refine RetS.mk hx [0, 1, 2, 3, 4, 5, 6, 136] [] _ _ _ (by decide) (by (simp only [LV, pSN, pAN, pSS, pAS, pM, stoH', stoV, kinV, prV, Sim_seen, LMS, dg, mach, List.cons_append, List.nil_append, LZ, seval, reduceCtorEq, forall_const])) (by ((try simp only [LV, pSN, pAN, pSS, pAS, pM, stoH', stoV, kinV, prV, Sim_seen, LMS, dg, mach, List.cons_append, List.nil_append, LZ, seval, reduceCtorEq, forall_const, LY, seval, reduceCtorEq, implies_true]); first | done | exact True.intro | (intros; rfl))) (by ((try simp only [pSN, pAN, pSS, pAS, pM, stoH', stoV, kinV, prV, Sim_seen, LMS, dg, mach, List.cons_append, List.nil_append, LY, seval, reduceCtorEq, implies_true]); first | done | exact True.intro | (intros; rfl))) ⟨rfl, rfl, rfl⟩
        | some p =>
          have hG : Runs M 328 [.ptr 0 [], dg D] _ _ _ := runs_GetSnew ok w n hn40 q l D _ hp hn
          simp only [getR, tup2] at hG
          refine call_mB [0, 1, 2, 3, 4, 6] [0, 1, 2, 3, 4, 6] (hG) (by rfl) (by rfl) (by decide) (by rfl) (by rfl) (by ((try simp only [stoH', stoV, kinV, Sim_seen, NoIm_seen, dg, LMS, List.cons_append, List.nil_append, LY, seval, reduceCtorEq, implies_true]); first | done | exact True.intro | rfl | (exact fun j hj => (hP j hj).symm))) (by ((try simp only [stoH', stoV, kinV, Sim_seen, NoIm_seen, dg, LMS, List.cons_append, List.nil_append, LY, seval, reduceCtorEq, implies_true]); first | done | exact True.intro | rfl | (exact fun j hj => (hP j hj).symm))) (by simp only [stoH', stoV, kinV, Sim_seen, NoIm_seen, dg, LMS, List.cons_append, List.nil_append, LX, implies_true]) (by simp only [stoH', stoV, kinV, Sim_seen, NoIm_seen, dg, LMS, List.cons_append, List.nil_append, LX, implies_true]) ?_
          (simp (maxSteps := 4000000) only [LM, stoH', stoV, kinV, ren_seen, tup2, List.cons_append, List.nil_append, LZ, seval, reduceCtorEq, forall_const])
          refine loop_rule (σ := Nat) (fun i => i ≤ 8) (fun i => fr 94 [(0, .ptr 5 []), (4, W b), (16, .sl 8 [] 0 64 1), (77, W 8#64), (78, W (BitVec.ofNat 64 i))])
            (fun i => stoH' w (.sl 7 [] 0 (n + 1) 32) (updL D true l) ++ [(5, mach (fun j => if b.toNat ≤ j ∧ j < b.toNat + i then wrd (fun i => p.at (8 * (j - b.toNat) + i)) 8 else f j) g pc false xt), (7, .ar 32 (n + 1) fun i => dg (if i < n then q i else D)), (8, prV p)]) (fun _ => 9) (fun i => 8 - i) 0 (by omega) ?_ ?_
          · refine Weak.fr [0, 1, 2, 3, 4, 5, 6, 136, 200] [] hx (by simp only [fr_length]) (by decide) ?_ ?_
            · simp only [LY, seval, reduceCtorEq, implies_true]
            · simp only [stoH', stoV, kinV, mach, Sim_seen, List.cons_append, List.nil_append, LMS, dg, LY, seval, reduceCtorEq, implies_true]
              exact fun i _ => (if_neg (by omega)).symm
          · intro i hi
            refine ex_sound 2000 _ _ _ _ ?_
            by_cases h4 : i = 8
            · subst h4
              (simp (maxSteps := 4000000) only [LM, stoH', stoV, kinV, mach, List.cons_append, List.nil_append, LZ, seval, reduceCtorEq, forall_const])
              refine RetS.mk hx [0, 1, 2, 3, 4, 5, 6, 7] [] _ _ _ (by decide) (by (simp only [LV, pSN, pAN, pSS, pAS, pM, stoH', stoV, kinV, mach, Sim_seen, LMS, dg, List.cons_append, List.nil_append, LZ, seval, reduceCtorEq, forall_const])) (by ((try simp only [LV, pSN, pAN, pSS, pAS, pM, stoH', stoV, kinV, mach, Sim_seen, LMS, dg, List.cons_append, List.nil_append, LZ, seval, reduceCtorEq, forall_const, LY, seval, reduceCtorEq, implies_true]); first | done | exact True.intro | (intros; rfl))) (by ((try simp only [pSN, pAN, pSS, pAS, pM, stoH', stoV, kinV, mach, Sim_seen, LMS, dg, List.cons_append, List.nil_append, LY, seval, reduceCtorEq, implies_true]); first | done | exact True.intro | (intros; rfl))) ⟨rfl, rfl, rfl⟩
            · have t1 : (BitVec.ofNat 64 i).toNat = i := by rw [BitVec.toNat_ofNat, Nat.mod_eq_of_lt (by omega)]
              have d0 : (BitVec.ofNat 64 i < 8#64) = True := eq_true (by rw [BitVec.lt_def, t1]; show i < 8; omega)
              have t2 : (8#64 * BitVec.ofNat 64 i).toNat = 8 * i := by rw [BitVec.toNat_mul, t1]; show 8 * i % _ = _; omega
              have t3 : (b + BitVec.ofNat 64 i).toNat = b.toNat + i := by rw [BitVec.toNat_add, t1]; omega
              have t4 : BitVec.ofNat 64 i + 1#64 = BitVec.ofNat 64 (i + 1) := by apply BitVec.eq_of_toNat_eq; rw [BitVec.toNat_add, t1, BitVec.toNat_ofNat, BitVec.toNat_ofNat]
              (simp (maxSteps := 4000000) only [d0, t2, t3, t4, LM, stoH', stoV, kinV, mach, List.cons_append, List.nil_append, LZ, seval, reduceCtorEq, forall_const])
              repeat (refine And.intro (by first | omega | exact True.intro | rfl) ?_)
              refine opd_pA (runs_Word ok (64 - 8 * i) (by omega) (fun j => p.at (8 * i + j))) (by ((try simp only [prV, LMS, LY, seval, reduceCtorEq, implies_true]); first | done | exact True.intro | rfl | ((show 8 * i + (64 - 8 * i) ≤ 64; omega)))) (by first | rfl | (simp only [LN, LP, V.ren, tup2, tup3])) (by simp only [prV, LMS, LX, implies_true]) ?_
              (simp (maxSteps := 4000000) only [t2, t3, t4, LM, LZ, seval, reduceCtorEq, forall_const])
              repeat (refine And.intro (by first | omega | exact True.intro | rfl) ?_)
              refine ⟨i + 1, by omega, by omega, ?_⟩
              refine Weak.fr [0, 1, 2, 3, 4, 5, 6, 7, 8] [] hx (by simp only [fr_length]) (by decide) ?_ ?_
              · simp only [LY, seval, reduceCtorEq, implies_true]
              · simp only [Sim_seen, LMS, dg, LY, seval, reduceCtorEq, implies_true]
                intro q hq
                by_cases e : q = b.toNat + i
                · subst e
                  rw [if_pos rfl, if_pos (by omega), Nat.add_sub_cancel_left]; simp only [W, LY, seval, reduceCtorEq, implies_true]
                · rw [if_neg e]
                  by_cases e2 : b.toNat ≤ q ∧ q < b.toNat + i
                  · rw [if_pos (by omega), if_pos e2]; simp only [W, LY, seval, reduceCtorEq, implies_true]
                  · rw [if_neg (by omega), if_neg e2]; simp only [W, LY, seval, reduceCtorEq, implies_true]
    · have d0 : ((i : Int) < 4) = True := eq_true (by omega)
      have w0 : IntKind.i64.wrap ((i : Int) + 1) = ((i + 1 : Nat) : Int) := by rw [wrap_i64 (by omega)]; omega
      have n0 : (0 : Int) ≤ (i : Int) := by omega
      (simp (maxSteps := 4000000) only [d0, w0, LM, stoH', stoV, kinV, mach, List.cons_append, List.nil_append, LZ, seval, reduceCtorEq, forall_const])
      repeat (refine And.intro (by first | omega | exact True.intro | rfl) ?_)
      refine call_mA [7] (runs_AddBS okA ok (8 * i) (by omega) (byWs fun j => f (a.toNat + j)) (f (a.toNat + i))) (by decide) (by rfl) (by ((try simp only [LMS, LY, seval, reduceCtorEq, implies_true]); first | done | exact True.intro | rfl)) (by ((try simp only [LMS, LY, seval, reduceCtorEq, implies_true]); first | done | exact True.intro | rfl)) (by simp only [LMS, LX, implies_true]) (by simp only [LMS, LX, implies_true]) ?_
      (simp (maxSteps := 4000000) only [LM, w0, LZ, seval, reduceCtorEq, forall_const])
      repeat (refine And.intro (by first | omega | exact True.intro | rfl) ?_)
      refine ⟨i + 1, by omega, by omega, by omega, ?_⟩
      have e88 : 8 * (i + 1) = 8 * i + 8 := by omega
      rw [e88]
      refine Weak.fr [0, 1, 2, 3, 4, 5, 6, 104] [] hx (by simp only [fr_length]) (by decide) ?_ ?_
      · simp only [LY, seval, reduceCtorEq, implies_true]
      · simp only [Sim_seen, LMS, dg, LY, seval, reduceCtorEq, implies_true]
        intro q hq
        by_cases e : q < 8 * i
        · rw [if_pos e]
        · have e1 : q / 8 = i := by omega
          have e2 : q % 8 = q - 8 * i := by omega
          rw [if_neg e, byWs, e1, e2]

end Mv
namespace Mv
open Go
set_option maxRecDepth 20000
set_option maxHeartbeats 4000000
set_option linter.unusedSimpArgs false

/-- The machine behind it. -/
def pQ (f g : Nat → BitVec 64) (pc xt b : BitVec 64) : Option Pr → V
  | some p => mach (fun j => if b.toNat ≤ j ∧ j < b.toNat + 8 then wrd (fun i => p.at (8 * (j - b.toNat) + i)) 8 else f j) g (pc + 1#64) false xt
  | none => mach f g pc true missW

theorem runs_StepPN {M : Seat} (okA : OkA M) (ok : OkO M) (s : WS) (l : List (Dg × Bool)) (f g : Nat → BitVec 64) (pc xt : BitVec 64) (hpc : ¬ 8192#64 ≤ pc) (w : BitVec 64) (hw : f pc.toNat = w) (hop : pOp w = 35) (h2 : w >>> 32 &&& 255#64 = 0#64)
    (ha : (g (pF w 48)).toNat + 4 ≤ 8192) (hb : (g (pF w 44)).toNat + 8 ≤ 8192) (D : Dg) (hD : Dg.mk' (byWs fun j => f ((g (pF w 48)).toNat + j)) = D) (o : Option Pr) (sn : Bool) (hl : lkp D s.pres = o) (hs : was l D sn) :
    Runs M 70 [.ptr 5 [], .ptr 0 []] (stoH' s .nils l ++ [(5, mach f g pc false xt)]) 6
      (fun r H' k' => r = .nili ∧ H' = pSN s l D sn ++ (5, pQ f g pc xt (g (pF w 44)) o) :: pAN D sn ∧ k' = if sn then 6 else 7) := by
  refine runs_fr ok.k70 rfl fun x hx => ?_
  have hp : pc.toNat < 8192 := by rw [BitVec.le_def] at hpc; simpa using hpc
  have a1 := pF_lt w 52
  have a2 := pF_lt w 48
  have a3 := pF_lt w 44
  have hO := runs_oraclePN okA ok s l f g pc xt _ _ ha hb o sn (by rw [hD]; exact hl) (by rw [hD]; exact hs)
  rw [hD] at hO
  clear hD hl hs
  refine ex_sound 2000 _ _ _ _ ?_; (simp (maxSteps := 4000000) only [f70, c70, mach, hpc, hw, stoH', stoV, kinV, List.cons_append, List.nil_append, LZ, seval, reduceCtorEq, forall_const])
  repeat (refine And.intro (by first | omega | exact True.intro | rfl) ?_)
  refine opd_pA (runs_Parts ok.toOkV w (by omega) h2) (by ((try simp only [partsR, LY, seval, reduceCtorEq, implies_true]); first | done | exact True.intro | rfl)) (by first | rfl | (simp only [LN, LP, V.ren, tup2, tup3])) (by simp only [partsR, LX, implies_true]) ?_
  (simp (maxSteps := 4000000) only [partsR, hop, LZ, seval, reduceCtorEq, forall_const])
  repeat (refine And.intro (by first | omega | exact True.intro | rfl) ?_)
  cases sn with
  | true =>
    cases o with
    | none =>
      simp only [Option.isSome, pM, pSN, pAN, pSS, pAS] at hO
      refine opd_mA [0, 1, 2, 3, 4, 5] (hO) (by decide) (by rfl) (by ((try simp only [stoH', stoV, kinV, mach, Sim_seen, NoIm_seen, dg, LMS, List.cons_append, List.nil_append, LY, seval, reduceCtorEq, implies_true]); first | done | exact True.intro | rfl)) (by ((try simp only [stoH', stoV, kinV, mach, Sim_seen, NoIm_seen, dg, LMS, List.cons_append, List.nil_append, LY, seval, reduceCtorEq, implies_true]); first | done | exact True.intro | rfl)) (by simp only [stoH', stoV, kinV, mach, Sim_seen, NoIm_seen, dg, LMS, List.cons_append, List.nil_append, LX, implies_true]) (by simp only [stoH', stoV, kinV, mach, Sim_seen, NoIm_seen, dg, LMS, List.cons_append, List.nil_append, LX, implies_true]) ?_
      (simp (maxSteps := 4000000) only [stoH', stoV, kinV, mach, ren_seen, LM, List.cons_append, List.nil_append, LZ, seval, reduceCtorEq, forall_const])
      repeat (refine And.intro (by first | omega | exact True.intro | rfl) ?_)
      refine RetS.mk hx [0, 1, 2, 3, 4, 5] [] _ _ _ (by decide) (by (simp only [LV, pSN, pAN, pSS, pAS, pQ, stoH', stoV, kinV, mach, Sim_seen, dg, LMS, List.cons_append, List.nil_append, LZ, seval, reduceCtorEq, forall_const])) (by ((try simp only [LV, pSN, pAN, pSS, pAS, pQ, stoH', stoV, kinV, mach, Sim_seen, dg, LMS, List.cons_append, List.nil_append, LZ, seval, reduceCtorEq, forall_const, LY, seval, reduceCtorEq, implies_true]); first | done | exact True.intro | (intros; rfl))) (by ((try simp only [pSN, pAN, pSS, pAS, pQ, stoH', stoV, kinV, mach, Sim_seen, dg, LMS, List.cons_append, List.nil_append, LY, seval, reduceCtorEq, implies_true]); first | done | exact True.intro | (intros; rfl))) ⟨rfl, rfl, rfl⟩
    | some p =>
      simp only [Option.isSome, pM, pSN, pAN, pSS, pAS] at hO
      simp only [pQ]
      generalize (fun j => if (g (pF w 44)).toNat ≤ j ∧ j < (g (pF w 44)).toNat + 8 then wrd (fun i => p.at (8 * (j - (g (pF w 44)).toNat) + i)) 8 else f j) = F at *
      refine opd_mA [0, 1, 2, 3, 4, 5] (hO) (by decide) (by rfl) (by ((try simp only [stoH', stoV, kinV, mach, Sim_seen, NoIm_seen, dg, LMS, List.cons_append, List.nil_append, LY, seval, reduceCtorEq, implies_true]); first | done | exact True.intro | rfl)) (by ((try simp only [stoH', stoV, kinV, mach, Sim_seen, NoIm_seen, dg, LMS, List.cons_append, List.nil_append, LY, seval, reduceCtorEq, implies_true]); first | done | exact True.intro | rfl)) (by simp only [stoH', stoV, kinV, mach, Sim_seen, NoIm_seen, dg, LMS, List.cons_append, List.nil_append, LX, implies_true]) (by simp only [stoH', stoV, kinV, mach, Sim_seen, NoIm_seen, dg, LMS, List.cons_append, List.nil_append, LX, implies_true]) ?_
      (simp (maxSteps := 4000000) only [stoH', stoV, kinV, mach, ren_seen, LM, List.cons_append, List.nil_append, LZ, seval, reduceCtorEq, forall_const])
      repeat (refine And.intro (by first | omega | exact True.intro | rfl) ?_)
      refine RetS.mk hx [0, 1, 2, 3, 4, 5] [] _ _ _ (by decide) (by (simp only [LV, pSN, pAN, pSS, pAS, pQ, stoH', stoV, kinV, mach, Sim_seen, dg, LMS, List.cons_append, List.nil_append, LZ, seval, reduceCtorEq, forall_const])) (by ((try simp only [LV, pSN, pAN, pSS, pAS, pQ, stoH', stoV, kinV, mach, Sim_seen, dg, LMS, List.cons_append, List.nil_append, LZ, seval, reduceCtorEq, forall_const, LY, seval, reduceCtorEq, implies_true]); first | done | exact True.intro | (intros; rfl))) (by ((try simp only [pSN, pAN, pSS, pAS, pQ, stoH', stoV, kinV, mach, Sim_seen, dg, LMS, List.cons_append, List.nil_append, LY, seval, reduceCtorEq, implies_true]); first | done | exact True.intro | (intros; rfl))) ⟨rfl, rfl, rfl⟩
  | false =>
    cases o with
    | none =>
      simp only [Option.isSome, pM, pSN, pAN, pSS, pAS] at hO
      refine opd_mA [0, 1, 2, 3, 4, 5] (hO) (by decide) (by rfl) (by ((try simp only [stoH', stoV, kinV, mach, Sim_seen, NoIm_seen, dg, LMS, List.cons_append, List.nil_append, LY, seval, reduceCtorEq, implies_true]); first | done | exact True.intro | rfl)) (by ((try simp only [stoH', stoV, kinV, mach, Sim_seen, NoIm_seen, dg, LMS, List.cons_append, List.nil_append, LY, seval, reduceCtorEq, implies_true]); first | done | exact True.intro | rfl)) (by simp only [stoH', stoV, kinV, mach, Sim_seen, NoIm_seen, dg, LMS, List.cons_append, List.nil_append, LX, implies_true]) (by simp only [stoH', stoV, kinV, mach, Sim_seen, NoIm_seen, dg, LMS, List.cons_append, List.nil_append, LX, implies_true]) ?_
      (simp (maxSteps := 4000000) only [stoH', stoV, kinV, mach, ren_seen, LM, List.cons_append, List.nil_append, LZ, seval, reduceCtorEq, forall_const])
      repeat (refine And.intro (by first | omega | exact True.intro | rfl) ?_)
      refine RetS.mk hx [0, 1, 2, 3, 4, 5, 2070] [] _ _ _ (by decide) (by (simp only [LV, pSN, pAN, pSS, pAS, pQ, stoH', stoV, kinV, mach, Sim_seen, dg, LMS, List.cons_append, List.nil_append, LZ, seval, reduceCtorEq, forall_const])) (by ((try simp only [LV, pSN, pAN, pSS, pAS, pQ, stoH', stoV, kinV, mach, Sim_seen, dg, LMS, List.cons_append, List.nil_append, LZ, seval, reduceCtorEq, forall_const, LY, seval, reduceCtorEq, implies_true]); first | done | exact True.intro | (intros; rfl))) (by ((try simp only [pSN, pAN, pSS, pAS, pQ, stoH', stoV, kinV, mach, Sim_seen, dg, LMS, List.cons_append, List.nil_append, LY, seval, reduceCtorEq, implies_true]); first | done | exact True.intro | (intros; rfl))) ⟨rfl, rfl, rfl⟩
    | some p =>
      simp only [Option.isSome, pM, pSN, pAN, pSS, pAS] at hO
      simp only [pQ]
      generalize (fun j => if (g (pF w 44)).toNat ≤ j ∧ j < (g (pF w 44)).toNat + 8 then wrd (fun i => p.at (8 * (j - (g (pF w 44)).toNat) + i)) 8 else f j) = F at *
      refine opd_mA [0, 1, 2, 3, 4, 5] (hO) (by decide) (by rfl) (by ((try simp only [stoH', stoV, kinV, mach, Sim_seen, NoIm_seen, dg, LMS, List.cons_append, List.nil_append, LY, seval, reduceCtorEq, implies_true]); first | done | exact True.intro | rfl)) (by ((try simp only [stoH', stoV, kinV, mach, Sim_seen, NoIm_seen, dg, LMS, List.cons_append, List.nil_append, LY, seval, reduceCtorEq, implies_true]); first | done | exact True.intro | rfl)) (by simp only [stoH', stoV, kinV, mach, Sim_seen, NoIm_seen, dg, LMS, List.cons_append, List.nil_append, LX, implies_true]) (by simp only [stoH', stoV, kinV, mach, Sim_seen, NoIm_seen, dg, LMS, List.cons_append, List.nil_append, LX, implies_true]) ?_
      (simp (maxSteps := 4000000) only [stoH', stoV, kinV, mach, ren_seen, LM, List.cons_append, List.nil_append, LZ, seval, reduceCtorEq, forall_const])
      repeat (refine And.intro (by first | omega | exact True.intro | rfl) ?_)
      refine RetS.mk hx [0, 1, 2, 3, 4, 5, 2070] [] _ _ _ (by decide) (by (simp only [LV, pSN, pAN, pSS, pAS, pQ, stoH', stoV, kinV, mach, Sim_seen, dg, LMS, List.cons_append, List.nil_append, LZ, seval, reduceCtorEq, forall_const])) (by ((try simp only [LV, pSN, pAN, pSS, pAS, pQ, stoH', stoV, kinV, mach, Sim_seen, dg, LMS, List.cons_append, List.nil_append, LZ, seval, reduceCtorEq, forall_const, LY, seval, reduceCtorEq, implies_true]); first | done | exact True.intro | (intros; rfl))) (by ((try simp only [pSN, pAN, pSS, pAS, pQ, stoH', stoV, kinV, mach, Sim_seen, dg, LMS, List.cons_append, List.nil_append, LY, seval, reduceCtorEq, implies_true]); first | done | exact True.intro | (intros; rfl))) ⟨rfl, rfl, rfl⟩

theorem runs_StepPS {M : Seat} (okA : OkA M) (ok : OkO M) (s : WS) (n : Nat) (hn40 : n < 1099511627776) (q : Nat → Dg) (l : List (Dg × Bool)) (f g : Nat → BitVec 64) (pc xt : BitVec 64) (hpc : ¬ 8192#64 ≤ pc) (w : BitVec 64) (hw : f pc.toNat = w) (hop : pOp w = 35) (h2 : w >>> 32 &&& 255#64 = 0#64)
    (ha : (g (pF w 48)).toNat + 4 ≤ 8192) (hb : (g (pF w 44)).toNat + 8 ≤ 8192) (D : Dg) (hD : Dg.mk' (byWs fun j => f ((g (pF w 48)).toNat + j)) = D) (o : Option Pr) (sn : Bool) (hl : lkp D s.pres = o) (hs : was l D sn) :
    Runs M 70 [.ptr 5 [], .ptr 0 []] (stoH' s (.sl 6 [] 0 n 32) l ++ [(5, mach f g pc false xt), (6, .ar 32 n fun i => dg (q i))]) 7
      (fun r H' k' => r = .nili ∧ H' = pSS s n l D sn ++ (5, pQ f g pc xt (g (pF w 44)) o) :: pAS n q D sn ∧ k' = if sn then 7 else 8) := by
  refine runs_fr ok.k70 rfl fun x hx => ?_
  have hp : pc.toNat < 8192 := by rw [BitVec.le_def] at hpc; simpa using hpc
  have a1 := pF_lt w 52
  have a2 := pF_lt w 48
  have a3 := pF_lt w 44
  have hO := runs_oraclePS okA ok s n hn40 q l f g pc xt _ _ ha hb o sn (by rw [hD]; exact hl) (by rw [hD]; exact hs)
  rw [hD] at hO
  clear hD hl hs
  refine ex_sound 2000 _ _ _ _ ?_; (simp (maxSteps := 4000000) only [f70, c70, mach, hpc, hw, stoH', stoV, kinV, List.cons_append, List.nil_append, LZ, seval, reduceCtorEq, forall_const])
  repeat (refine And.intro (by first | omega | exact True.intro | rfl) ?_)
  refine opd_pA (runs_Parts ok.toOkV w (by omega) h2) (by ((try simp only [partsR, LY, seval, reduceCtorEq, implies_true]); first | done | exact True.intro | rfl)) (by first | rfl | (simp only [LN, LP, V.ren, tup2, tup3])) (by simp only [partsR, LX, implies_true]) ?_
  (simp (maxSteps := 4000000) only [partsR, hop, LZ, seval, reduceCtorEq, forall_const])
  repeat (refine And.intro (by first | omega | exact True.intro | rfl) ?_)
  cases sn with
  | true =>
    cases o with
    | none =>
      simp only [Option.isSome, pM, pSN, pAN, pSS, pAS] at hO
      refine opd_mA [0, 1, 2, 3, 4, 5, 6] (hO) (by decide) (by rfl) (by ((try simp only [stoH', stoV, kinV, mach, Sim_seen, NoIm_seen, dg, LMS, List.cons_append, List.nil_append, LY, seval, reduceCtorEq, implies_true]); first | done | exact True.intro | rfl)) (by ((try simp only [stoH', stoV, kinV, mach, Sim_seen, NoIm_seen, dg, LMS, List.cons_append, List.nil_append, LY, seval, reduceCtorEq, implies_true]); first | done | exact True.intro | rfl)) (by simp only [stoH', stoV, kinV, mach, Sim_seen, NoIm_seen, dg, LMS, List.cons_append, List.nil_append, LX, implies_true]) (by simp only [stoH', stoV, kinV, mach, Sim_seen, NoIm_seen, dg, LMS, List.cons_append, List.nil_append, LX, implies_true]) ?_
      (simp (maxSteps := 4000000) only [stoH', stoV, kinV, mach, ren_seen, LM, List.cons_append, List.nil_append, LZ, seval, reduceCtorEq, forall_const])
      repeat (refine And.intro (by first | omega | exact True.intro | rfl) ?_)
      refine RetS.mk hx [0, 1, 2, 3, 4, 5, 6] [] _ _ _ (by decide) (by (simp only [LV, pSN, pAN, pSS, pAS, pQ, stoH', stoV, kinV, mach, Sim_seen, dg, LMS, List.cons_append, List.nil_append, LZ, seval, reduceCtorEq, forall_const])) (by ((try simp only [LV, pSN, pAN, pSS, pAS, pQ, stoH', stoV, kinV, mach, Sim_seen, dg, LMS, List.cons_append, List.nil_append, LZ, seval, reduceCtorEq, forall_const, LY, seval, reduceCtorEq, implies_true]); first | done | exact True.intro | (intros; rfl))) (by ((try simp only [pSN, pAN, pSS, pAS, pQ, stoH', stoV, kinV, mach, Sim_seen, dg, LMS, List.cons_append, List.nil_append, LY, seval, reduceCtorEq, implies_true]); first | done | exact True.intro | (intros; rfl))) ⟨rfl, rfl, rfl⟩
    | some p =>
      simp only [Option.isSome, pM, pSN, pAN, pSS, pAS] at hO
      simp only [pQ]
      generalize (fun j => if (g (pF w 44)).toNat ≤ j ∧ j < (g (pF w 44)).toNat + 8 then wrd (fun i => p.at (8 * (j - (g (pF w 44)).toNat) + i)) 8 else f j) = F at *
      refine opd_mA [0, 1, 2, 3, 4, 5, 6] (hO) (by decide) (by rfl) (by ((try simp only [stoH', stoV, kinV, mach, Sim_seen, NoIm_seen, dg, LMS, List.cons_append, List.nil_append, LY, seval, reduceCtorEq, implies_true]); first | done | exact True.intro | rfl)) (by ((try simp only [stoH', stoV, kinV, mach, Sim_seen, NoIm_seen, dg, LMS, List.cons_append, List.nil_append, LY, seval, reduceCtorEq, implies_true]); first | done | exact True.intro | rfl)) (by simp only [stoH', stoV, kinV, mach, Sim_seen, NoIm_seen, dg, LMS, List.cons_append, List.nil_append, LX, implies_true]) (by simp only [stoH', stoV, kinV, mach, Sim_seen, NoIm_seen, dg, LMS, List.cons_append, List.nil_append, LX, implies_true]) ?_
      (simp (maxSteps := 4000000) only [stoH', stoV, kinV, mach, ren_seen, LM, List.cons_append, List.nil_append, LZ, seval, reduceCtorEq, forall_const])
      repeat (refine And.intro (by first | omega | exact True.intro | rfl) ?_)
      refine RetS.mk hx [0, 1, 2, 3, 4, 5, 6] [] _ _ _ (by decide) (by (simp only [LV, pSN, pAN, pSS, pAS, pQ, stoH', stoV, kinV, mach, Sim_seen, dg, LMS, List.cons_append, List.nil_append, LZ, seval, reduceCtorEq, forall_const])) (by ((try simp only [LV, pSN, pAN, pSS, pAS, pQ, stoH', stoV, kinV, mach, Sim_seen, dg, LMS, List.cons_append, List.nil_append, LZ, seval, reduceCtorEq, forall_const, LY, seval, reduceCtorEq, implies_true]); first | done | exact True.intro | (intros; rfl))) (by ((try simp only [pSN, pAN, pSS, pAS, pQ, stoH', stoV, kinV, mach, Sim_seen, dg, LMS, List.cons_append, List.nil_append, LY, seval, reduceCtorEq, implies_true]); first | done | exact True.intro | (intros; rfl))) ⟨rfl, rfl, rfl⟩
  | false =>
    cases o with
    | none =>
      simp only [Option.isSome, pM, pSN, pAN, pSS, pAS] at hO
      refine opd_mA [0, 1, 2, 3, 4, 5, 6] (hO) (by decide) (by rfl) (by ((try simp only [stoH', stoV, kinV, mach, Sim_seen, NoIm_seen, dg, LMS, List.cons_append, List.nil_append, LY, seval, reduceCtorEq, implies_true]); first | done | exact True.intro | rfl)) (by ((try simp only [stoH', stoV, kinV, mach, Sim_seen, NoIm_seen, dg, LMS, List.cons_append, List.nil_append, LY, seval, reduceCtorEq, implies_true]); first | done | exact True.intro | rfl)) (by simp only [stoH', stoV, kinV, mach, Sim_seen, NoIm_seen, dg, LMS, List.cons_append, List.nil_append, LX, implies_true]) (by simp only [stoH', stoV, kinV, mach, Sim_seen, NoIm_seen, dg, LMS, List.cons_append, List.nil_append, LX, implies_true]) ?_
      (simp (maxSteps := 4000000) only [stoH', stoV, kinV, mach, ren_seen, LM, List.cons_append, List.nil_append, LZ, seval, reduceCtorEq, forall_const])
      repeat (refine And.intro (by first | omega | exact True.intro | rfl) ?_)
      refine RetS.mk hx [0, 1, 2, 3, 4, 5, 6, 2071] [] _ _ _ (by decide) (by (simp only [LV, pSN, pAN, pSS, pAS, pQ, stoH', stoV, kinV, mach, Sim_seen, dg, LMS, List.cons_append, List.nil_append, LZ, seval, reduceCtorEq, forall_const])) (by ((try simp only [LV, pSN, pAN, pSS, pAS, pQ, stoH', stoV, kinV, mach, Sim_seen, dg, LMS, List.cons_append, List.nil_append, LZ, seval, reduceCtorEq, forall_const, LY, seval, reduceCtorEq, implies_true]); first | done | exact True.intro | (intros; rfl))) (by ((try simp only [pSN, pAN, pSS, pAS, pQ, stoH', stoV, kinV, mach, Sim_seen, dg, LMS, List.cons_append, List.nil_append, LY, seval, reduceCtorEq, implies_true]); first | done | exact True.intro | (intros; rfl))) ⟨rfl, rfl, rfl⟩
    | some p =>
      simp only [Option.isSome, pM, pSN, pAN, pSS, pAS] at hO
      simp only [pQ]
      generalize (fun j => if (g (pF w 44)).toNat ≤ j ∧ j < (g (pF w 44)).toNat + 8 then wrd (fun i => p.at (8 * (j - (g (pF w 44)).toNat) + i)) 8 else f j) = F at *
      refine opd_mA [0, 1, 2, 3, 4, 5, 6] (hO) (by decide) (by rfl) (by ((try simp only [stoH', stoV, kinV, mach, Sim_seen, NoIm_seen, dg, LMS, List.cons_append, List.nil_append, LY, seval, reduceCtorEq, implies_true]); first | done | exact True.intro | rfl)) (by ((try simp only [stoH', stoV, kinV, mach, Sim_seen, NoIm_seen, dg, LMS, List.cons_append, List.nil_append, LY, seval, reduceCtorEq, implies_true]); first | done | exact True.intro | rfl)) (by simp only [stoH', stoV, kinV, mach, Sim_seen, NoIm_seen, dg, LMS, List.cons_append, List.nil_append, LX, implies_true]) (by simp only [stoH', stoV, kinV, mach, Sim_seen, NoIm_seen, dg, LMS, List.cons_append, List.nil_append, LX, implies_true]) ?_
      (simp (maxSteps := 4000000) only [stoH', stoV, kinV, mach, ren_seen, LM, List.cons_append, List.nil_append, LZ, seval, reduceCtorEq, forall_const])
      repeat (refine And.intro (by first | omega | exact True.intro | rfl) ?_)
      refine RetS.mk hx [0, 1, 2, 3, 4, 5, 6, 2071] [] _ _ _ (by decide) (by (simp only [LV, pSN, pAN, pSS, pAS, pQ, stoH', stoV, kinV, mach, Sim_seen, dg, LMS, List.cons_append, List.nil_append, LZ, seval, reduceCtorEq, forall_const])) (by ((try simp only [LV, pSN, pAN, pSS, pAS, pQ, stoH', stoV, kinV, mach, Sim_seen, dg, LMS, List.cons_append, List.nil_append, LZ, seval, reduceCtorEq, forall_const, LY, seval, reduceCtorEq, implies_true]); first | done | exact True.intro | (intros; rfl))) (by ((try simp only [pSN, pAN, pSS, pAS, pQ, stoH', stoV, kinV, mach, Sim_seen, dg, LMS, List.cons_append, List.nil_append, LY, seval, reduceCtorEq, implies_true]); first | done | exact True.intro | (intros; rfl))) ⟨rfl, rfl, rfl⟩

end Mv
