/- The oracles of a step, over any memory behind the interface. -/
import Derived.Test.YtncipgmjhaiagaaDoorW1
import Derived.Test.YtncipgmjhaiagaaDoorK5
import Derived.Test.YtncipgmjhaiagaaDoorW7
import Derived.Test.YtncipgmjhaiagaaDoorY3
set_option linter.unusedSimpArgs false
set_option linter.unusedVariables false
namespace Mv
open Go
set_option maxRecDepth 20000
set_option maxHeartbeats 4000000
set_option linter.unusedSimpArgs false

theorem ofN_toNat (i : Nat) (hi : i < 18446744073709551616) : (BitVec.ofNat 64 i).toNat = i := by rw [BitVec.toNat_ofNat, Nat.mod_eq_of_lt (by omega)]
theorem ofN_succ (i : Nat) : BitVec.ofNat 64 i + 1#64 = BitVec.ofNat 64 (i + 1) := by apply BitVec.eq_of_toNat_eq; rw [BitVec.toNat_add, BitVec.toNat_ofNat, BitVec.toNat_ofNat, BitVec.toNat_ofNat]; omega
theorem ofN_lt (i n : Nat) (hi : i < 18446744073709551616) (hn : n < 18446744073709551616) : (BitVec.ofNat 64 i < BitVec.ofNat 64 n) = (i < n) := by rw [BitVec.lt_def, ofN_toNat i hi, ofN_toNat n hn]
theorem add_in (b : BitVec 64) (i : Nat) (h : b.toNat + i < 8192) : ¬ 8192#64 ≤ b + BitVec.ofNat 64 i := by
  rw [BitVec.le_def, BitVec.toNat_add, ofN_toNat i (by omega)]
  show ¬ 8192 ≤ _
  omega

/-- Behind what an oracle has found: the writes. -/
def orcT : LC := (.seq ((.seq (.reg [A1 79 (.mv (.t 13)),
  A1 80 (.mv (.c (.int .u64 0)))])
 (.block 2 (.loop ((.seq (.reg [A1 81 (.ari .lss (.t 80) (.t 79))])
 ((.seq (.cond (.t 81) (.skip) (.exit 2))
 ((.seq (.block 3 ((.seq (.reg [A1 82 (.mv (.t 80)),
  A1 22 (.mv (.t 82))])
 ((.seq (.regd [⟨4, 0, A1 87 (.mv (.t 18))⟩,
  ⟨5, 0, A1 88 (.mv (.t 22))⟩,
  ⟨6, 2, A1 89 (.ari .mul (.c (.int .u64 8)) (.t 88))⟩,
  ⟨7, 7, A1 90 (.slsl 1 (.t 87) (some (.t 89)) none)⟩,
  ⟨8, 15, ⟨(some 91), .call 308 [(.t 90)], none⟩⟩,
  ⟨0, 0, A1 83 (.mv (.t 1))⟩,
  ⟨1, 0, A1 84 (.mv (.t 4))⟩,
  ⟨2, 0, A1 85 (.mv (.t 22))⟩,
  ⟨3, 192, A1 86 (.ari .add (.t 84) (.t 85))⟩,
  ⟨9, 32, A1 92 (.mkmth 1 (.t 83))⟩,
  ⟨10, 544, A1 93 (.nilm 1 [422, 426] (.t 92))⟩,
  ⟨11, 1568, A1 94 (.mv (.t 83))⟩,
  ⟨12, 4095, ⟨(some 95), .dyn (.c (.fcons 1 .junk .fnil)) [(.t 94), (.t 86), (.t 91)], none⟩⟩,
  ⟨13, 8191, A1 23 (.mv (.t 95))⟩])
 ((.seq (.reg [A1 96 (.mv (.t 23)),
  A1 97 (.eq true true (.iface [74]) (.t 96) (.c .nili))])
 (.cond (.t 97) ((.seq (.reg [A1 98 (.load true 19 (.t 5)),
  A1 99 (.mv (.t 23)),
  A0 (.store 19 (.t 10) (.t 98)),
  A1 11 (.mv (.t 99))])
 (.ret))) (.skip)))))))))
 (.reg [A1 100 (.ari .add (.t 80) (.c (.int .u64 1))),
  A1 80 (.mv (.t 100))])))))))))))
 ((.seq (.reg [A1 101 (.fadr 16 (.t 5)),
  A1 102 (.load false 1 (.t 101)),
  A1 103 (.ari .add (.t 102) (.c (.int .u64 1))),
  A1 104 (.fadr 16 (.t 5)),
  A0 (.store 1 (.t 104) (.t 103))])
 ((.seq (.reg [A1 105 (.load true 19 (.t 5)),
  A0 (.store 19 (.t 10) (.t 105)),
  A1 11 (.mv (.c .nili))])
 (.ret))))))

theorem orc_tail {M : Seat} (ok : OkQ M) (I : MemI M) (g : Nat → BitVec 64) (pc : BitVec 64) (xt : BitVec 64) (b : BitVec 64) (t : Nat) (ht : t ≤ 8) (hb : b.toNat + t ≤ 8192) (p : Nat → BitVec 8) (s0 : I.σ) (hL0 : I.len s0 ≤ 50) (x : Ctx) (hx : x.k = I.kk) :
    SemK M x (RetS M x [.cell 10 true 19, .tmp 11] (fun r H' k' => r = tup2 (orcW I.mm ⟨g, pc, false, xt⟩ s0 b t p).1.v (erO (orcW I.mm ⟨g, pc, false, xt⟩ s0 b t p).2.1) ∧ H' = I.E (orcW I.mm ⟨g, pc, false, xt⟩ s0 b t p).2.2 I.kk ∧ k' = I.kk + 1)) [.code orcT] 21
      (fr 106 [(1, .ifc I.t (.ptr 0 [])), (4, W b), (5, .ptr 17 []), (10, .ptr 18 []), (11, .nili), (13, W (BitVec.ofNat 64 t)), (18, .sl 19 [] 0 (8 * t) 1)])
      ((17, hdV g pc false xt) :: (18, hdV (fun _ => 0#64) 0#64 false 0#64) :: (19, .ar 1 (8 * t) fun j => B (p j)) :: I.E s0 20) := by
  have hk := I.hk
  refine ex_sound 2000 _ _ _ _ ?_
  (simp (maxSteps := 4000000) only [orcT, LZ, seval, reduceCtorEq, forall_const])
  refine loop_rule (σ := Nat × I.σ) (fun q => q.1 ≤ t ∧ I.len q.2 ≤ 50 + q.1 ∧ wrA I.mm b (wsB p) (t - q.1) q.1 q.2 = wrA I.mm b (wsB p) t 0 s0) (fun q => fr 106 [(1, .ifc I.t (.ptr 0 [])), (4, W b), (5, .ptr 17 []), (10, .ptr 18 []), (11, .nili), (18, .sl 19 [] 0 (8 * t) 1), (79, W (BitVec.ofNat 64 t)), (80, W (BitVec.ofNat 64 q.1))])
    (fun q => (17, hdV g pc false xt) :: (18, hdV (fun _ => 0#64) 0#64 false 0#64) :: (19, .ar 1 (8 * t) fun j => B (p j)) :: I.E q.2 20) (fun _ => 21) (fun q => t - q.1) (0, s0) ⟨Nat.zero_le _, hL0, rfl⟩ ?_ ?_
  · refine Weak.frK [0, 1, 2, 3, 4, 5, 6, 7, 8, 9, 10, 11, 12, 13, 14, 15, 16, 17, 18, 19, 20] (by omega) (by simp only [fr_length]) (by decide) ?_ ?_
    · simp only [LY, seval, reduceCtorEq, implies_true]
    · simp only [hdV, LY, seval, reduceCtorEq, implies_true, true_and]
      exact I.sm [_, _, _] (n := 10000) (by rfl) (by rfl) (by rfl)
  · rintro ⟨i, s⟩ ⟨hi, hLi, hw⟩
    dsimp only at hi hw hLi ⊢
    have hL : I.len s ≤ 100 := by omega
    refine ex_sound 2000 _ _ _ _ ?_
    have e1 := ofN_lt i t (by omega) (by omega)
    by_cases h4 : i = t
    · subst h4
      rw [Nat.sub_self, wrA] at hw
      simp only [orcW, ← hw]
      have d0 := eq_false (Nat.lt_irrefl i)
      (simp (maxSteps := 4000000) only [e1, d0, hdV, LZ, seval, reduceCtorEq, forall_const])
      exact I.ret [_, _, _] (q := I.kk) ⟨by omega, by omega⟩ hx (by decide) (by rfl) ⟨rfl, rfl, rfl⟩ (by (simp only [LV, hdV, mcons, List.nil_append, LZ, seval, reduceCtorEq, forall_const])) (by (simp only [LV, hdV, Hd.v, mcons, List.nil_append, erN_none, erN_some, LZ, seval, reduceCtorEq, forall_const, LY, seval, reduceCtorEq, implies_true]))
    · have hit : i < t := Nat.lt_of_le_of_ne hi h4
      have t1 := ofN_toNat i (by omega)
      have t2 : (8#64 * BitVec.ofNat 64 i).toNat = 8 * i := by rw [BitVec.toNat_mul, t1]; show 8 * i % _ = _; omega
      have t4 := ofN_succ i
      have hlt := add_in b i (by omega)
      have d0 := eq_true hit
      rw [show t - i = (t - (i + 1)) + 1 by omega, wrA] at hw
      (simp (maxSteps := 4000000) only [e1, d0, t2, t4, hdV, LZ, seval, reduceCtorEq, forall_const])
      repeat (refine And.intro (by first | omega | exact True.intro | rfl) ?_)
      refine opd_pA (runs_Word ok.ok (8 * t - 8 * i) (by omega) (fun j => p (8 * i + j))) (by ((try simp only [dg, LMS, LY, seval, reduceCtorEq, implies_true]); first | done | exact True.intro | rfl | ((show 8 * i + (8 * t - 8 * i) ≤ 8 * t; omega)))) (by first | rfl | (simp only [LN, LP, V.ren, tup2, tup3])) (by simp only [dg, LMS, LX, implies_true]) ?_
      have hw2 : wrd (fun j => p (8 * i + j)) 8 = wsB p i := rfl
      (simp (maxSteps := 4000000) only [t2, t4, hw2, I.nil_in, I.idsE, LZ, seval, reduceCtorEq, forall_const])
      cases he : (I.mm.wr s (b + BitVec.ofNat 64 i) (wsB p i)).1 with
      | some e =>
        rw [he] at hw
        simp only [orcW, ← hw]
        refine I.opyW [_, _, _] hL hlt (by decide) (by rfl) ?_
        (simp (maxSteps := 4000000) only [he, erN_some, List.nil_append, I.idsE, hdV, LZ, seval, reduceCtorEq, forall_const])
        exact I.ret [_, _, _] (q := I.kk) ⟨by omega, by omega⟩ hx (by decide) (by rfl) ⟨rfl, rfl, rfl⟩ (by (simp only [LV, hdV, mcons, List.nil_append, LZ, seval, reduceCtorEq, forall_const])) (by (simp only [LV, hdV, Hd.v, mcons, List.nil_append, erN_none, erN_some, LZ, seval, reduceCtorEq, forall_const, LY, seval, reduceCtorEq, implies_true]))
      | none =>
        rw [he] at hw
        refine I.opyW [_, _, _] hL hlt (by decide) (by rfl) ?_
        (simp (maxSteps := 4000000) only [he, erN_none, List.nil_append, I.idsE, t4, LZ, seval, reduceCtorEq, forall_const])
        refine ⟨(i + 1, (I.mm.wr s (b + BitVec.ofNat 64 i) (wsB p i)).2), by omega, (by have := I.lw s (b + BitVec.ofNat 64 i) (wsB p i); show I.len (I.mm.wr s (b + BitVec.ofNat 64 i) (wsB p i)).2 ≤ 50 + (i + 1); omega), hw, by omega, ?_⟩
        refine Weak.frK [0, 1, 2, 3, 4, 5, 6, 7, 8, 9, 10, 11, 12, 13, 14, 15, 16, 17, 18, 19, 485] (by omega) (by simp only [fr_length]) (by decide) ?_ ?_
        · simp only [LY, seval, reduceCtorEq, implies_true]
        · simp only [hdV, LY, seval, reduceCtorEq, implies_true, true_and]
          exact I.sm [_, _, _] (n := 10000) (by rfl) (by rfl) (by rfl)

/-- Behind the reads. -/
def orcR : LC := (.seq (.reg [A1 18 (.mv (.c .nils))])
 ((.seq ((.seq (.reg [A1 58 (.mv (.t 2)),
  A1 59 (.ari .eql (.t 58) (.c (.int .i64 34)))])
 (.cond (.t 59) ((.seq (.reg [A1 60 (.mv (.t 14)),
  ⟨(some 61), .call 319 [(.t 60)], none⟩,
  A1 19 (.alloc (.ar 32 (.int .u8))),
  A0 (.store 32 (.t 19) (.t 61))])
 (.reg [A1 62 (.slarr 32 1 (.t 19) none none),
  A1 18 (.mv (.t 62))]))) ((.seq (.regd [⟨0, 0, A1 64 (.mv (.t 1))⟩,
  ⟨1, 0, A1 65 (.mv (.t 14))⟩,
  ⟨2, 2, A1 66 (.s2a 32 1 (.t 65))⟩,
  ⟨3, 6, A1 67 (.load true 32 (.t 66))⟩,
  ⟨4, 1, A1 68 (.mkmth 2 (.t 64))⟩,
  ⟨5, 17, A1 69 (.nilm 2 [422, 426] (.t 68))⟩,
  ⟨6, 49, A1 70 (.mv (.t 64))⟩,
  ⟨7, 127, ⟨(some 71), .dyn (.c (.fcons 2 .junk .fnil)) [(.t 70), (.t 67)], none⟩⟩,
  ⟨8, 255, A1 63 (.mv (.t 71))⟩,
  ⟨9, 511, A1 72 (.ext (.t 63) 0)⟩,
  ⟨11, 0, A1 20 (.alloc (.ar 64 (.int .u8)))⟩,
  ⟨12, 2047, A0 (.store 64 (.t 20) (.t 72))⟩,
  ⟨10, 511, A1 73 (.ext (.t 63) 1)⟩,
  ⟨13, 8191, A1 21 (.mv (.t 73))⟩])
 ((.seq ((.seq (.reg [A1 74 (.mv (.t 21)),
  A1 75 (.eq true true (.iface [74]) (.t 74) (.c .nili))])
 (.cond (.t 75) ((.seq (.reg [A1 76 (.load true 19 (.t 5)),
  A1 77 (.mv (.t 21)),
  A0 (.store 19 (.t 10) (.t 76)),
  A1 11 (.mv (.t 77))])
 (.ret))) (.skip))))
 (.reg [A1 78 (.slarr 64 1 (.t 20) none none),
  A1 18 (.mv (.t 78))]))))))))
 ((.seq ((.seq (.reg [A1 79 (.mv (.t 13)),
  A1 80 (.mv (.c (.int .u64 0)))])
 (.block 2 (.loop ((.seq (.reg [A1 81 (.ari .lss (.t 80) (.t 79))])
 ((.seq (.cond (.t 81) (.skip) (.exit 2))
 ((.seq (.block 3 ((.seq (.reg [A1 82 (.mv (.t 80)),
  A1 22 (.mv (.t 82))])
 ((.seq (.regd [⟨4, 0, A1 87 (.mv (.t 18))⟩,
  ⟨5, 0, A1 88 (.mv (.t 22))⟩,
  ⟨6, 2, A1 89 (.ari .mul (.c (.int .u64 8)) (.t 88))⟩,
  ⟨7, 7, A1 90 (.slsl 1 (.t 87) (some (.t 89)) none)⟩,
  ⟨8, 15, ⟨(some 91), .call 308 [(.t 90)], none⟩⟩,
  ⟨0, 0, A1 83 (.mv (.t 1))⟩,
  ⟨1, 0, A1 84 (.mv (.t 4))⟩,
  ⟨2, 0, A1 85 (.mv (.t 22))⟩,
  ⟨3, 192, A1 86 (.ari .add (.t 84) (.t 85))⟩,
  ⟨9, 32, A1 92 (.mkmth 1 (.t 83))⟩,
  ⟨10, 544, A1 93 (.nilm 1 [422, 426] (.t 92))⟩,
  ⟨11, 1568, A1 94 (.mv (.t 83))⟩,
  ⟨12, 4095, ⟨(some 95), .dyn (.c (.fcons 1 .junk .fnil)) [(.t 94), (.t 86), (.t 91)], none⟩⟩,
  ⟨13, 8191, A1 23 (.mv (.t 95))⟩])
 ((.seq (.reg [A1 96 (.mv (.t 23)),
  A1 97 (.eq true true (.iface [74]) (.t 96) (.c .nili))])
 (.cond (.t 97) ((.seq (.reg [A1 98 (.load true 19 (.t 5)),
  A1 99 (.mv (.t 23)),
  A0 (.store 19 (.t 10) (.t 98)),
  A1 11 (.mv (.t 99))])
 (.ret))) (.skip)))))))))
 (.reg [A1 100 (.ari .add (.t 80) (.c (.int .u64 1))),
  A1 80 (.mv (.t 100))])))))))))))
 ((.seq (.reg [A1 101 (.fadr 16 (.t 5)),
  A1 102 (.load false 1 (.t 101)),
  A1 103 (.ari .add (.t 102) (.c (.int .u64 1))),
  A1 104 (.fadr 16 (.t 5)),
  A0 (.store 1 (.t 104) (.t 103))])
 ((.seq (.reg [A1 105 (.load true 19 (.t 5)),
  A0 (.store 19 (.t 10) (.t 105)),
  A1 11 (.mv (.c .nili))])
 (.ret))))))))))
theorem orc_tail34 {M : Seat} (ok : OkQ M) (I : MemI M) (g : Nat → BitVec 64) (pc : BitVec 64) (xt : BitVec 64) (b : BitVec 64) (hb : b.toNat + 4 ≤ 8192) (s : I.σ) (hL : I.len s ≤ 50) (l : List (BitVec 64)) (hl : l.length = 8) (q : Hd × Option Int × I.σ)
    (hq : orcW I.mm ⟨g, pc, false, xt⟩ s b 4 (sum64 (Pr.mk' (bysL l)).at).at = q) (x : Ctx) (hx : x.k = I.kk) :
    SemK M x (RetS M x [.cell 10 true 19, .tmp 11] (fun r H' k' => r = tup2 q.1.v (erO q.2.1) ∧ H' = I.E q.2.2 I.kk ∧ k' = I.kk + 1)) [.code orcR] 21
      (fr 106 [(1, .ifc I.t (.ptr 0 [])), (2, .int .i64 34), (4, W b), (5, .ptr 17 []), (10, .ptr 18 []), (11, .nili), (13, W 4#64), (14, .sl 19 [] 0 64 1)])
      ((17, hdV g pc false xt) :: (18, hdV (fun _ => 0#64) 0#64 false 0#64) :: (19, .ar 1 64 fun j => B (bysL l j)) :: I.E s 20) := by
  have hP : ∀ j, j < 64 → (Pr.mk' (bysL l)).at j = bysL l j := fun j hj => Pr.at_mk' _ _ hj
  generalize Pr.mk' (bysL l) = P at *
  subst hq
  refine ex_sound 9 _ _ _ _ ?_
  (simp (maxSteps := 4000000) only [orcR, hdV, LZ, seval, reduceCtorEq, forall_const])
  refine call_pA (runs_Sum64 ok.okA ok.ok.toOkH P.at) (by ((try simp only [dg, LY, seval, reduceCtorEq, implies_true]); first | done | exact True.intro | rfl | (exact fun j hj => (hP j hj).symm))) (by first | rfl | (simp only [LN, LP, V.ren, tup2, tup3])) (by simp only [dg, LX, implies_true]) ?_
  generalize sum64 P.at = D at *
  (simp (maxSteps := 4000000) only [LM, LZ, seval, reduceCtorEq, forall_const])
  refine SemK.weak _ _ _ ?_ (orc_tail ok I g pc xt b 4 (by omega) hb D.at s hL x hx)
  refine Weak.frK [0, 1, 2, 3, 4, 5, 6, 7, 8, 9, 10, 11, 12, 13, 14, 15, 16, 17, 18, 101, 20] (by have := I.hk; omega) (by simp only [fr_length]) (by decide) ?_ ?_
  · simp only [LY, seval, reduceCtorEq, implies_true]
  · simp only [hdV, dg, LY, seval, reduceCtorEq, implies_true, true_and]
    exact I.sm [_, _, _, _] (n := 10000) (by rfl) (by rfl) (by rfl)
theorem orc_tail35 {M : Seat} (ok : OkQ M) (I : MemI M) (g : Nat → BitVec 64) (pc : BitVec 64) (xt : BitVec 64) (b : BitVec 64) (hb : b.toNat + 8 ≤ 8192) (s : I.σ) (hL : I.len s ≤ 50) (l : List (BitVec 64)) (hl : l.length = 4) (q : Hd × Option Int × I.σ)
    (hq : orcP I.mm ⟨g, pc, false, xt⟩ s b (Dg.mk' (bysL l)) = q) (x : Ctx) (hx : x.k = I.kk) :
    SemK M x (RetS M x [.cell 10 true 19, .tmp 11] (fun r H' k' => r = tup2 q.1.v (erO q.2.1) ∧ H' = I.E q.2.2 I.kk ∧ k' = I.kk + 1)) [.code orcR] 21
      (fr 106 [(1, .ifc I.t (.ptr 0 [])), (2, .int .i64 35), (4, W b), (5, .ptr 17 []), (10, .ptr 18 []), (11, .nili), (13, W 8#64), (14, .sl 19 [] 0 32 1)])
      ((17, hdV g pc false xt) :: (18, hdV (fun _ => 0#64) 0#64 false 0#64) :: (19, .ar 1 32 fun j => B (bysL l j)) :: I.E s 20) := by
  have hP : ∀ j, j < 32 → (Dg.mk' (bysL l)).at j = bysL l j := fun j hj => Dg.at_mk' _ _ hj
  generalize Dg.mk' (bysL l) = D at *
  rw [orcP] at hq
  refine ex_sound 14 _ _ _ _ ?_
  (simp (maxSteps := 4000000) only [orcR, hdV, I.nil_in, I.idsE, LZ, seval, reduceCtorEq, forall_const])
  refine I.opyP [_, _, _] (h := D) (fun H m z => ?_) (by decide) (by rfl) ?_
  · simp only [SimV, dg, LY, seval, reduceCtorEq, implies_true]
    exact fun j hj => by rw [hP j hj]
  · generalize hr : I.mm.pi s D = r at *
    obtain ⟨p, e, s'⟩ := r
    cases e with
    | some e =>
      dsimp only at hq
      subst hq
      (simp (maxSteps := 4000000) only [erN_some, tup2, List.nil_append, I.idsE, prV, LZ, seval, reduceCtorEq, forall_const])
      refine ex_sound 20 _ _ _ _ ?_
      (simp (maxSteps := 4000000) only [hdV, LZ, seval, reduceCtorEq, forall_const])
      exact I.ret [_, _, _, _] (q := I.kk) ⟨by have := I.hk; omega, by have := I.hk; omega⟩ hx (by decide) (by rfl) ⟨rfl, rfl, rfl⟩ (by (simp only [LV, hdV, mcons, List.nil_append, LZ, seval, reduceCtorEq, forall_const])) (by (simp only [LV, hdV, Hd.v, mcons, List.nil_append, erN_none, erN_some, LZ, seval, reduceCtorEq, forall_const, LY, seval, reduceCtorEq, implies_true]))
    | none =>
      dsimp only at hq
      subst hq
      (simp (maxSteps := 4000000) only [erN_none, tup2, List.nil_append, I.idsE, prV, LZ, seval, reduceCtorEq, forall_const])
      refine SemK.weak _ _ _ ?_ (orc_tail ok I g pc xt b 8 (by omega) hb p.at s' (by have := I.lp s D; rw [hr] at this; exact Nat.le_trans this hL) x hx)
      refine Weak.frK [0, 1, 2, 3, 4, 5, 6, 7, 8, 9, 10, 11, 12, 13, 14, 15, 16, 17, 18, 229, 20] (by have := I.hk; omega) (by simp only [fr_length]) (by decide) ?_ ?_
      · simp only [LY, seval, reduceCtorEq, implies_true]
      · simp only [hdV, dg, LY, seval, reduceCtorEq, implies_true, true_and]
        exact I.sm [_, _, _, _] (n := 10000) (by rfl) (by rfl) (by rfl)

theorem runs_orcW34 {M : Seat} (ok : OkQ M) (I : MemI M) (g : Nat → BitVec 64) (pc : BitVec 64) (xt : BitVec 64) (a b : BitVec 64) (s : I.σ) (h : (wi a 8#64 && wi b 4#64) = false) :
    Runs M 348 [hdV g pc false xt, .ifc I.t (.ptr 0 []), .int .i64 34, W a, W b] (I.E s I.k0) I.kk (fun r H' k' => r = tup2 (hdV g pc true wrongW) .nili ∧ H' = I.E s I.k0 ∧ k' = I.kk + 1) := by
  refine runs_fr ok.okN.k348 rfl fun x hx => ?_
  refine SemK.up (N' := 32) (by have := I.hk; omega) ?_
  cases h1 : wi a 8#64 with
  | false =>
    refine ex_sound 2000 _ _ _ _ ?_; (simp (maxSteps := 4000000) only [f348, c348, hdV, LZ, seval, reduceCtorEq, forall_const])
    refine call_pZ (runs_within15 ok.okN a 8#64) ?_
    (simp (maxSteps := 4000000) only [h1, LZ, seval, reduceCtorEq, forall_const])
    refine call_pA (runs_stopped ok.okN g pc false xt wrongW) (by ((try simp only [hdV, LY, seval, reduceCtorEq, implies_true]); first | done | exact True.intro | rfl)) (by first | rfl | (simp only [LN, LP, V.ren, tup2, tup3])) (by simp only [hdV, LX, implies_true]) ?_
    (simp (maxSteps := 4000000) only [hdV, LZ, seval, reduceCtorEq, forall_const])
    exact I.retU [_, _] (n := 10000) hx (by rfl) ⟨rfl, rfl, rfl⟩ (by (simp only [LV, hdV, mcons, List.nil_append, LZ, seval, reduceCtorEq, forall_const])) (by (simp only [LV, hdV, mcons, List.nil_append, LZ, seval, reduceCtorEq, forall_const, LY, seval, reduceCtorEq, implies_true]))
  | true =>
    rw [h1, Bool.true_and] at h
    refine ex_sound 2000 _ _ _ _ ?_; (simp (maxSteps := 4000000) only [f348, c348, hdV, LZ, seval, reduceCtorEq, forall_const])
    refine call_pZ (runs_within15 ok.okN a 8#64) ?_
    (simp (maxSteps := 4000000) only [h1, LZ, seval, reduceCtorEq, forall_const])
    refine call_pZ (runs_within15 ok.okN b 4#64) ?_
    (simp (maxSteps := 4000000) only [h, LZ, seval, reduceCtorEq, forall_const])
    refine call_pA (runs_stopped ok.okN g pc false xt wrongW) (by ((try simp only [hdV, LY, seval, reduceCtorEq, implies_true]); first | done | exact True.intro | rfl)) (by first | rfl | (simp only [LN, LP, V.ren, tup2, tup3])) (by simp only [hdV, LX, implies_true]) ?_
    (simp (maxSteps := 4000000) only [hdV, LZ, seval, reduceCtorEq, forall_const])
    exact I.retU [_, _] (n := 10000) hx (by rfl) ⟨rfl, rfl, rfl⟩ (by (simp only [LV, hdV, mcons, List.nil_append, LZ, seval, reduceCtorEq, forall_const])) (by (simp only [LV, hdV, mcons, List.nil_append, LZ, seval, reduceCtorEq, forall_const, LY, seval, reduceCtorEq, implies_true]))

theorem runs_orc34 {M : Seat} (ok : OkQ M) (I : MemI M) (g : Nat → BitVec 64) (pc : BitVec 64) (xt : BitVec 64) (a b : BitVec 64) (s0 : I.σ) (hL0 : I.len s0 ≤ 1) (h1 : wi a 8#64 = true) (h2 : wi b 4#64 = true) (q : Hd × Option Int × I.σ) (hq : orc I.mm 34 ⟨g, pc, false, xt⟩ s0 a b = q) :
    Runs M 348 [hdV g pc false xt, .ifc I.t (.ptr 0 []), .int .i64 34, W a, W b] (I.E s0 I.k0) I.kk (fun r H' k' => r = tup2 q.1.v (erO q.2.1) ∧ H' = I.E q.2.2 I.kk ∧ k' = I.kk + 1) := by
  have hk := I.hk
  have ha := wi_le h1
  have hb := wi_le h2
  simp only [orc, h1, h2, Bool.and_self, Bool.true_eq_false, if_false, if_true, seval] at hq
  refine runs_fr ok.okN.k348 rfl fun x hx => ?_
  refine SemK.up (N' := 32) (by omega) ?_
  refine ex_sound 2000 _ _ _ _ ?_; (simp (maxSteps := 4000000) only [f348, c348, hdV, LZ, seval, reduceCtorEq, forall_const])
  refine call_pZ (runs_within15 ok.okN a 8#64) ?_
  (simp (maxSteps := 4000000) only [h1, LZ, seval, reduceCtorEq, forall_const])
  refine call_pZ (runs_within15 ok.okN b 4#64) ?_
  (simp (maxSteps := 4000000) only [h2, LZ, seval, reduceCtorEq, forall_const])
  refine loop_once ?_
  refine ex_sound 2000 _ _ _ _ ?_
  (simp (maxSteps := 4000000) only [LZ, seval, reduceCtorEq, forall_const])
  have hlt0 := add_in a 0 (by have : (8#64 : BitVec 64).toNat = 8 := rfl; omega)
  generalize hR : rdA I.mm a 8 0 s0 [] = R at hq
  rw [rdA] at hR
  refine I.dynRk [_, _] (by omega) hlt0 (by rfl) ?_
  cases he : (I.mm.rd s0 (a + BitVec.ofNat 64 0)).2.1 with
  | some e =>
    rw [he] at hR
    subst hR
    dsimp only at hq
    subst hq
    (simp (maxSteps := 4000000) only [he, erN_some, tup2, hdV, List.nil_append, LZ, seval, reduceCtorEq, forall_const])
    exact I.ret [_, _] (q := I.kk) ⟨by omega, by omega⟩ hx (by decide) (by rfl) ⟨rfl, rfl, rfl⟩ (by (simp only [LV, hdV, mcons, List.nil_append, LZ, seval, reduceCtorEq, forall_const])) (by (simp only [LV, hdV, Hd.v, mcons, List.nil_append, erN_none, erN_some, LZ, seval, reduceCtorEq, forall_const, LY, seval, reduceCtorEq, implies_true]))
  | none =>
    rw [he] at hR
    dsimp only at hR
    have hL1 := I.lr s0 (a + BitVec.ofNat 64 0)
    generalize hs1 : (I.mm.rd s0 (a + BitVec.ofNat 64 0)).2.2 = s1 at *
    generalize hw0 : (I.mm.rd s0 (a + BitVec.ofNat 64 0)).1 = w0 at *
    (simp (maxSteps := 4000000) only [he, erN_none, tup2, hdV, List.nil_append, LZ, seval, reduceCtorEq, forall_const])
    refine call_fZ (runs_AddBN ok.okA ok.ok w0) ?_
    (simp (maxSteps := 4000000) only [LZ, seval, reduceCtorEq, forall_const])
    refine loop_rule (σ := Nat × I.σ × List (BitVec 64)) (fun q => (1 ≤ q.1 ∧ q.1 ≤ 8) ∧ I.len q.2.1 ≤ 1 + q.1 ∧ q.2.2.length = q.1 ∧ rdA I.mm a (8 - q.1) q.1 q.2.1 q.2.2 = R)
      (fun q => fr 106 [(1, .ifc I.t (.ptr 0 [])), (2, .int .i64 34), (3, W a), (4, W b), (5, .ptr 17 []), (10, .ptr 18 []), (11, .nili), (13, W 4#64), (14, .sl 19 [] 0 (8 * q.1) 1), (38, W 8#64), (39, W (BitVec.ofNat 64 q.1))])
      (fun q => (17, hdV g pc false xt) :: (18, hdV (fun _ => 0#64) 0#64 false 0#64) :: (19, .ar 1 (8 * q.1) fun j => B (bysL q.2.2 j)) :: I.E q.2.1 20) (fun _ => 21) (fun q => 8 - q.1) (1, s1, [w0]) ⟨⟨by omega, by omega⟩, by show I.len s1 ≤ 1 + 1; omega, rfl, hR⟩ ?_ ?_
    · refine Weak.frK [0, 1, 2, 3, 4, 5, 6, 7, 8, 9, 10, 11, 12, 13, 14, 15, 16, 32, 48, 624, 464] (by omega) (by simp only [fr_length]) (by decide) ?_ ?_
      · simp only [LY, seval, reduceCtorEq, implies_true]
      · simp only [hdV, LY, seval, reduceCtorEq, implies_true, true_and]
        refine ⟨fun i hi => ?_, I.sm [_, _, _] (n := 10000) (by rfl) (by rfl) (by rfl)⟩
        have q1 : i / 8 = 0 := by omega
        have q2 : i % 8 = i := by omega
        simp only [bysL, byWs, q1, q2]
        rfl
    · rintro ⟨i, s, l⟩ ⟨⟨hi1, hi⟩, hLi, hl, hw⟩
      dsimp only at hi1 hi hl hw hLi ⊢
      have hL : I.len s ≤ 100 := by omega
      have e1 := ofN_lt i 8 (by omega) (by omega)
      by_cases h8 : i = 8
      · subst h8
        have d0 := eq_false (Nat.lt_irrefl 8)
        rw [Nat.sub_self, rdA] at hw
        subst hw
        dsimp only at hq
        refine ex_sound 5 _ _ _ _ ?_
        (simp (maxSteps := 4000000) only [e1, d0, hdV, LZ, seval, reduceCtorEq, forall_const])
        refine SemK.weak _ _ _ ?_ (orc_tail34 ok I g pc xt b hb s (by omega) l hl q hq x hx)
        refine Weak.frK [0, 1, 2, 3, 4, 5, 6, 7, 8, 9, 10, 11, 12, 13, 14, 15, 16, 17, 18, 19, 20] (by omega) (by simp only [fr_length]) (by decide) ?_ ?_
        · simp only [LY, seval, reduceCtorEq, implies_true]
        · simp only [hdV, LY, seval, reduceCtorEq, implies_true, true_and]
          exact I.sm [_, _, _] (n := 10000) (by rfl) (by rfl) (by rfl)
      · have hit : i < 8 := Nat.lt_of_le_of_ne hi h8
        have t4 := ofN_succ i
        have hlt := add_in a i (by have : (8#64 : BitVec 64).toNat = 8 := rfl; omega)
        have d0 := eq_true hit
        rw [show 8 - i = (8 - (i + 1)) + 1 by omega, rdA] at hw
        refine ex_sound 2000 _ _ _ _ ?_
        (simp (maxSteps := 4000000) only [e1, d0, hdV, LZ, seval, reduceCtorEq, forall_const])
        have hL2 := I.lr s (a + BitVec.ofNat 64 i)
        refine I.dynR [_, _, _] hL hlt (by decide) (by rfl) ?_
        cases he2 : (I.mm.rd s (a + BitVec.ofNat 64 i)).2.1 with
        | some e =>
          rw [he2] at hw
          subst hw
          dsimp only at hq
          subst hq
          (simp (maxSteps := 4000000) only [he2, erN_some, tup2, hdV, List.nil_append, LZ, seval, reduceCtorEq, forall_const])
          exact I.ret [_, _, _] (q := I.kk) ⟨by omega, by omega⟩ hx (by decide) (by rfl) ⟨rfl, rfl, rfl⟩ (by (simp only [LV, hdV, mcons, List.nil_append, LZ, seval, reduceCtorEq, forall_const])) (by (simp only [LV, hdV, Hd.v, mcons, List.nil_append, erN_none, erN_some, LZ, seval, reduceCtorEq, forall_const, LY, seval, reduceCtorEq, implies_true]))
        | none =>
          rw [he2] at hw
          (simp (maxSteps := 4000000) only [he2, erN_none, tup2, hdV, List.nil_append, LZ, seval, reduceCtorEq, forall_const])
          dsimp only at hw
          generalize (I.mm.rd s (a + BitVec.ofNat 64 i)).2.2 = s2 at *
          generalize (I.mm.rd s (a + BitVec.ofNat 64 i)).1 = w2 at *
          refine call_mA [19] (runs_AddBS ok.okA ok.ok (8 * i) (by omega) (bysL l) w2) (by decide) (by rfl) (by ((try simp only [LMS, LY, seval, reduceCtorEq, implies_true]); first | done | exact True.intro | rfl)) (by ((try simp only [LMS, LY, seval, reduceCtorEq, implies_true]); first | done | exact True.intro | rfl)) (by simp only [LMS, LX, implies_true]) (by simp only [LMS, LX, implies_true]) ?_
          (simp (maxSteps := 4000000) only [I.hdelE, t4, LZ, seval, reduceCtorEq, forall_const])
          refine ⟨(i + 1, s2, l ++ [w2]), by omega, by show i + 1 ≤ 8; omega, by show I.len s2 ≤ 1 + (i + 1); omega, by simp [hl], hw, by omega, ?_⟩
          dsimp only
          rw [show 8 * (i + 1) = 8 * i + 8 by omega]
          refine Weak.frK [0, 1, 2, 3, 4, 5, 6, 7, 8, 9, 10, 11, 12, 13, 14, 15, 16, 17, 18, 293, 133] (by omega) (by simp only [fr_length]) (by decide) ?_ ?_
          · simp only [LY, seval, reduceCtorEq, implies_true]
          · simp only [hdV, LY, seval, reduceCtorEq, implies_true, true_and]
            refine ⟨fun j hj => ?_, I.sm [_, _, _] (n := 10000) (by rfl) (by rfl) (by rfl)⟩
            rw [bysL, byWs, bysL, byWs]
            by_cases e : j < 8 * i
            · rw [if_pos e, List.getD_eq_getElem?_getD, List.getD_eq_getElem?_getD, List.getElem?_append_left (by omega)]
            · have e1 : j / 8 = i := by omega
              have e2 : j % 8 = j - 8 * i := by omega
              rw [if_neg e, e1, e2, List.getD_eq_getElem?_getD, List.getElem?_append_right (by omega), hl, Nat.sub_self]
              rfl
theorem runs_orcW35 {M : Seat} (ok : OkQ M) (I : MemI M) (g : Nat → BitVec 64) (pc : BitVec 64) (xt : BitVec 64) (a b : BitVec 64) (s : I.σ) (h : (wi a 4#64 && wi b 8#64) = false) :
    Runs M 348 [hdV g pc false xt, .ifc I.t (.ptr 0 []), .int .i64 35, W a, W b] (I.E s I.k0) I.kk (fun r H' k' => r = tup2 (hdV g pc true wrongW) .nili ∧ H' = I.E s I.k0 ∧ k' = I.kk + 1) := by
  refine runs_fr ok.okN.k348 rfl fun x hx => ?_
  refine SemK.up (N' := 32) (by have := I.hk; omega) ?_
  cases h1 : wi a 4#64 with
  | false =>
    refine ex_sound 2000 _ _ _ _ ?_; (simp (maxSteps := 4000000) only [f348, c348, hdV, LZ, seval, reduceCtorEq, forall_const])
    refine call_pZ (runs_within15 ok.okN a 4#64) ?_
    (simp (maxSteps := 4000000) only [h1, LZ, seval, reduceCtorEq, forall_const])
    refine call_pA (runs_stopped ok.okN g pc false xt wrongW) (by ((try simp only [hdV, LY, seval, reduceCtorEq, implies_true]); first | done | exact True.intro | rfl)) (by first | rfl | (simp only [LN, LP, V.ren, tup2, tup3])) (by simp only [hdV, LX, implies_true]) ?_
    (simp (maxSteps := 4000000) only [hdV, LZ, seval, reduceCtorEq, forall_const])
    exact I.retU [_, _] (n := 10000) hx (by rfl) ⟨rfl, rfl, rfl⟩ (by (simp only [LV, hdV, mcons, List.nil_append, LZ, seval, reduceCtorEq, forall_const])) (by (simp only [LV, hdV, mcons, List.nil_append, LZ, seval, reduceCtorEq, forall_const, LY, seval, reduceCtorEq, implies_true]))
  | true =>
    rw [h1, Bool.true_and] at h
    refine ex_sound 2000 _ _ _ _ ?_; (simp (maxSteps := 4000000) only [f348, c348, hdV, LZ, seval, reduceCtorEq, forall_const])
    refine call_pZ (runs_within15 ok.okN a 4#64) ?_
    (simp (maxSteps := 4000000) only [h1, LZ, seval, reduceCtorEq, forall_const])
    refine call_pZ (runs_within15 ok.okN b 8#64) ?_
    (simp (maxSteps := 4000000) only [h, LZ, seval, reduceCtorEq, forall_const])
    refine call_pA (runs_stopped ok.okN g pc false xt wrongW) (by ((try simp only [hdV, LY, seval, reduceCtorEq, implies_true]); first | done | exact True.intro | rfl)) (by first | rfl | (simp only [LN, LP, V.ren, tup2, tup3])) (by simp only [hdV, LX, implies_true]) ?_
    (simp (maxSteps := 4000000) only [hdV, LZ, seval, reduceCtorEq, forall_const])
    exact I.retU [_, _] (n := 10000) hx (by rfl) ⟨rfl, rfl, rfl⟩ (by (simp only [LV, hdV, mcons, List.nil_append, LZ, seval, reduceCtorEq, forall_const])) (by (simp only [LV, hdV, mcons, List.nil_append, LZ, seval, reduceCtorEq, forall_const, LY, seval, reduceCtorEq, implies_true]))

theorem runs_orc35 {M : Seat} (ok : OkQ M) (I : MemI M) (g : Nat → BitVec 64) (pc : BitVec 64) (xt : BitVec 64) (a b : BitVec 64) (s0 : I.σ) (hL0 : I.len s0 ≤ 1) (h1 : wi a 4#64 = true) (h2 : wi b 8#64 = true) (q : Hd × Option Int × I.σ) (hq : orc I.mm 35 ⟨g, pc, false, xt⟩ s0 a b = q) :
    Runs M 348 [hdV g pc false xt, .ifc I.t (.ptr 0 []), .int .i64 35, W a, W b] (I.E s0 I.k0) I.kk (fun r H' k' => r = tup2 q.1.v (erO q.2.1) ∧ H' = I.E q.2.2 I.kk ∧ k' = I.kk + 1) := by
  have hk := I.hk
  have ha := wi_le h1
  have hb := wi_le h2
  simp only [orc, h1, h2, Bool.and_self, Bool.true_eq_false, if_false, if_true, seval] at hq
  refine runs_fr ok.okN.k348 rfl fun x hx => ?_
  refine SemK.up (N' := 32) (by omega) ?_
  refine ex_sound 2000 _ _ _ _ ?_; (simp (maxSteps := 4000000) only [f348, c348, hdV, LZ, seval, reduceCtorEq, forall_const])
  refine call_pZ (runs_within15 ok.okN a 4#64) ?_
  (simp (maxSteps := 4000000) only [h1, LZ, seval, reduceCtorEq, forall_const])
  refine call_pZ (runs_within15 ok.okN b 8#64) ?_
  (simp (maxSteps := 4000000) only [h2, LZ, seval, reduceCtorEq, forall_const])
  refine loop_once ?_
  refine ex_sound 2000 _ _ _ _ ?_
  (simp (maxSteps := 4000000) only [LZ, seval, reduceCtorEq, forall_const])
  have hlt0 := add_in a 0 (by have : (4#64 : BitVec 64).toNat = 4 := rfl; omega)
  generalize hR : rdA I.mm a 4 0 s0 [] = R at hq
  rw [rdA] at hR
  refine I.dynRk [_, _] (by omega) hlt0 (by rfl) ?_
  cases he : (I.mm.rd s0 (a + BitVec.ofNat 64 0)).2.1 with
  | some e =>
    rw [he] at hR
    subst hR
    dsimp only at hq
    subst hq
    (simp (maxSteps := 4000000) only [he, erN_some, tup2, hdV, List.nil_append, LZ, seval, reduceCtorEq, forall_const])
    exact I.ret [_, _] (q := I.kk) ⟨by omega, by omega⟩ hx (by decide) (by rfl) ⟨rfl, rfl, rfl⟩ (by (simp only [LV, hdV, mcons, List.nil_append, LZ, seval, reduceCtorEq, forall_const])) (by (simp only [LV, hdV, Hd.v, mcons, List.nil_append, erN_none, erN_some, LZ, seval, reduceCtorEq, forall_const, LY, seval, reduceCtorEq, implies_true]))
  | none =>
    rw [he] at hR
    dsimp only at hR
    have hL1 := I.lr s0 (a + BitVec.ofNat 64 0)
    generalize hs1 : (I.mm.rd s0 (a + BitVec.ofNat 64 0)).2.2 = s1 at *
    generalize hw0 : (I.mm.rd s0 (a + BitVec.ofNat 64 0)).1 = w0 at *
    (simp (maxSteps := 4000000) only [he, erN_none, tup2, hdV, List.nil_append, LZ, seval, reduceCtorEq, forall_const])
    refine call_fZ (runs_AddBN ok.okA ok.ok w0) ?_
    (simp (maxSteps := 4000000) only [LZ, seval, reduceCtorEq, forall_const])
    refine loop_rule (σ := Nat × I.σ × List (BitVec 64)) (fun q => (1 ≤ q.1 ∧ q.1 ≤ 4) ∧ I.len q.2.1 ≤ 1 + q.1 ∧ q.2.2.length = q.1 ∧ rdA I.mm a (4 - q.1) q.1 q.2.1 q.2.2 = R)
      (fun q => fr 106 [(1, .ifc I.t (.ptr 0 [])), (2, .int .i64 35), (3, W a), (4, W b), (5, .ptr 17 []), (10, .ptr 18 []), (11, .nili), (13, W 8#64), (14, .sl 19 [] 0 (8 * q.1) 1), (38, W 4#64), (39, W (BitVec.ofNat 64 q.1))])
      (fun q => (17, hdV g pc false xt) :: (18, hdV (fun _ => 0#64) 0#64 false 0#64) :: (19, .ar 1 (8 * q.1) fun j => B (bysL q.2.2 j)) :: I.E q.2.1 20) (fun _ => 21) (fun q => 4 - q.1) (1, s1, [w0]) ⟨⟨by omega, by omega⟩, by show I.len s1 ≤ 1 + 1; omega, rfl, hR⟩ ?_ ?_
    · refine Weak.frK [0, 1, 2, 3, 4, 5, 6, 7, 8, 9, 10, 11, 12, 13, 14, 15, 16, 32, 48, 656, 496] (by omega) (by simp only [fr_length]) (by decide) ?_ ?_
      · simp only [LY, seval, reduceCtorEq, implies_true]
      · simp only [hdV, LY, seval, reduceCtorEq, implies_true, true_and]
        refine ⟨fun i hi => ?_, I.sm [_, _, _] (n := 10000) (by rfl) (by rfl) (by rfl)⟩
        have q1 : i / 8 = 0 := by omega
        have q2 : i % 8 = i := by omega
        simp only [bysL, byWs, q1, q2]
        rfl
    · rintro ⟨i, s, l⟩ ⟨⟨hi1, hi⟩, hLi, hl, hw⟩
      dsimp only at hi1 hi hl hw hLi ⊢
      have hL : I.len s ≤ 100 := by omega
      have e1 := ofN_lt i 4 (by omega) (by omega)
      by_cases h8 : i = 4
      · subst h8
        have d0 := eq_false (Nat.lt_irrefl 4)
        rw [Nat.sub_self, rdA] at hw
        subst hw
        dsimp only at hq
        refine ex_sound 5 _ _ _ _ ?_
        (simp (maxSteps := 4000000) only [e1, d0, hdV, LZ, seval, reduceCtorEq, forall_const])
        refine SemK.weak _ _ _ ?_ (orc_tail35 ok I g pc xt b hb s (by omega) l hl q hq x hx)
        refine Weak.frK [0, 1, 2, 3, 4, 5, 6, 7, 8, 9, 10, 11, 12, 13, 14, 15, 16, 17, 18, 19, 20] (by omega) (by simp only [fr_length]) (by decide) ?_ ?_
        · simp only [LY, seval, reduceCtorEq, implies_true]
        · simp only [hdV, LY, seval, reduceCtorEq, implies_true, true_and]
          exact I.sm [_, _, _] (n := 10000) (by rfl) (by rfl) (by rfl)
      · have hit : i < 4 := Nat.lt_of_le_of_ne hi h8
        have t4 := ofN_succ i
        have hlt := add_in a i (by have : (4#64 : BitVec 64).toNat = 4 := rfl; omega)
        have d0 := eq_true hit
        rw [show 4 - i = (4 - (i + 1)) + 1 by omega, rdA] at hw
        refine ex_sound 2000 _ _ _ _ ?_
        (simp (maxSteps := 4000000) only [e1, d0, hdV, LZ, seval, reduceCtorEq, forall_const])
        have hL2 := I.lr s (a + BitVec.ofNat 64 i)
        refine I.dynR [_, _, _] hL hlt (by decide) (by rfl) ?_
        cases he2 : (I.mm.rd s (a + BitVec.ofNat 64 i)).2.1 with
        | some e =>
          rw [he2] at hw
          subst hw
          dsimp only at hq
          subst hq
          (simp (maxSteps := 4000000) only [he2, erN_some, tup2, hdV, List.nil_append, LZ, seval, reduceCtorEq, forall_const])
          exact I.ret [_, _, _] (q := I.kk) ⟨by omega, by omega⟩ hx (by decide) (by rfl) ⟨rfl, rfl, rfl⟩ (by (simp only [LV, hdV, mcons, List.nil_append, LZ, seval, reduceCtorEq, forall_const])) (by (simp only [LV, hdV, Hd.v, mcons, List.nil_append, erN_none, erN_some, LZ, seval, reduceCtorEq, forall_const, LY, seval, reduceCtorEq, implies_true]))
        | none =>
          rw [he2] at hw
          (simp (maxSteps := 4000000) only [he2, erN_none, tup2, hdV, List.nil_append, LZ, seval, reduceCtorEq, forall_const])
          dsimp only at hw
          generalize (I.mm.rd s (a + BitVec.ofNat 64 i)).2.2 = s2 at *
          generalize (I.mm.rd s (a + BitVec.ofNat 64 i)).1 = w2 at *
          refine call_mA [19] (runs_AddBS ok.okA ok.ok (8 * i) (by omega) (bysL l) w2) (by decide) (by rfl) (by ((try simp only [LMS, LY, seval, reduceCtorEq, implies_true]); first | done | exact True.intro | rfl)) (by ((try simp only [LMS, LY, seval, reduceCtorEq, implies_true]); first | done | exact True.intro | rfl)) (by simp only [LMS, LX, implies_true]) (by simp only [LMS, LX, implies_true]) ?_
          (simp (maxSteps := 4000000) only [I.hdelE, t4, LZ, seval, reduceCtorEq, forall_const])
          refine ⟨(i + 1, s2, l ++ [w2]), by omega, by show i + 1 ≤ 4; omega, by show I.len s2 ≤ 1 + (i + 1); omega, by simp [hl], hw, by omega, ?_⟩
          dsimp only
          rw [show 8 * (i + 1) = 8 * i + 8 by omega]
          refine Weak.frK [0, 1, 2, 3, 4, 5, 6, 7, 8, 9, 10, 11, 12, 13, 14, 15, 16, 17, 18, 293, 133] (by omega) (by simp only [fr_length]) (by decide) ?_ ?_
          · simp only [LY, seval, reduceCtorEq, implies_true]
          · simp only [hdV, LY, seval, reduceCtorEq, implies_true, true_and]
            refine ⟨fun j hj => ?_, I.sm [_, _, _] (n := 10000) (by rfl) (by rfl) (by rfl)⟩
            rw [bysL, byWs, bysL, byWs]
            by_cases e : j < 8 * i
            · rw [if_pos e, List.getD_eq_getElem?_getD, List.getD_eq_getElem?_getD, List.getElem?_append_left (by omega)]
            · have e1 : j / 8 = i := by omega
              have e2 : j % 8 = j - 8 * i := by omega
              rw [if_neg e, e1, e2, List.getD_eq_getElem?_getD, List.getElem?_append_right (by omega), hl, Nat.sub_self]
              rfl
end Mv
namespace Mv
open Go
set_option maxRecDepth 20000
set_option maxHeartbeats 4000000
set_option linter.unusedSimpArgs false

theorem tpp_er (e : Option Int) : tpp (erO e) = True := by cases e <;> simp [tpp, erO, V.solid]
theorem tpc_er (e : Option Int) (i : Nat) (r : V) : tpc (erO e) i r = .fcons i (erO e) r := by cases e <;> rfl
theorem flatO {g : Nat → BitVec 64} {pc xt : BitVec 64} {hl : Bool} {t : Nat} {op : Int} {a b : BitVec 64} : FlatA [hdV g pc hl xt, .ifc t (.ptr 0 []), .int .i64 op, W a, W b] [hdV g pc hl xt, .ifc t (.ptr 0 []), .int .i64 op, W a, W b] := fun H m z h => by
  simp only [SimA, SimV, Sim, hdV, W, h, and_self, implies_true]
theorem flatH (g : Nat → BitVec 64) (pc xt : BitVec 64) (hl : Bool) (e : Option Int) : FlatV (tup2 (hdV g pc hl xt) (erO e)) := fun m => by simp only [tup2, V.ren, hdV, W, flat_er]

theorem runs_nxOrcW34 {M : Seat} (ok : OkQ M) (I : MemI M) (g : Nat → BitVec 64) (pc : BitVec 64) (xt : BitVec 64) (s : I.σ) (hz : I.Z s) (hpc : ¬ 8192#64 ≤ pc) (w : BitVec 64) (hw : (I.mm.rd s pc).1 = w) (he : (I.mm.rd s pc).2.1 = none) (s1 : I.σ) (hs : (I.mm.rd s pc).2.2 = s1) (hop : pOp w = 34) (h2 : w >>> 32 &&& 255#64 = 0#64) (h : (wi (g (pF w 48)) 8#64 && wi (g (pF w 44)) 4#64) = false) :
    Runs M 241 [hdV g pc false xt, .ifc I.t (.ptr 0 [])] (I.E0 s) I.k0 (fun r H' k' => r = tup2 (hdV g pc true wrongW) (erO (none)) ∧ H' = I.E (s1) I.k0 ∧ k' = I.k0 + 1) := by
  refine runs_fr ok.okN.k241 rfl fun x hx => ?_
  refine SemK.up (N' := 32) (by have := I.hk; omega) ?_
  have a1 := pF_lt w 52
  have a2 := pF_lt w 48
  have a3 := pF_lt w 44
  have a4 := pF_lt w 40
  have hL : I.len s1 ≤ 100 := by have := I.lr s pc; rw [hs, I.lz s hz] at this; omega
  refine ex_sound 2000 _ _ _ _ ?_; (simp (maxSteps := 4000000) only [f241, c241, hdV, I.hdel0, hpc, LZ, seval, reduceCtorEq, forall_const])
  refine I.dynR0 [_, _] hz hpc (by rfl) ?_
  rw [hw, he, hs]
  (simp (maxSteps := 4000000) only [erN_none, tup2, List.nil_append, LZ, seval, reduceCtorEq, forall_const])
  refine call_pA (runs_Parts ok.ok.toOkV w (by omega) h2) (by ((try simp only [partsR, LY, seval, reduceCtorEq, implies_true]); first | done | exact True.intro | rfl)) (by first | rfl | (simp only [LN, LP, V.ren, tup2, tup3])) (by simp only [partsR, LX, implies_true]) ?_
  (simp (maxSteps := 4000000) only [partsR, hop, I.idsE, LZ, seval, reduceCtorEq, forall_const])
  repeat (refine And.intro (by first | omega | exact True.intro | rfl) ?_)
  refine ⟨_, _, I.cu [_, _] (runs_orcW34 ok I g pc xt _ _ s1 h) flatO (fun m => rfl) (by have := I.hk; omega) (ow_mem (by rfl)) ⟨rfl, rfl⟩, ?_⟩
  (simp (maxSteps := 4000000) only [tup2, hdV, List.nil_append, I.idsE, LZ, seval, reduceCtorEq, forall_const])

  exact I.ret [_, _] (q := I.k0) ⟨Nat.le_refl _, by have := I.hk; omega⟩ hx (by decide) (by rfl) ⟨rfl, rfl, rfl⟩ (by (simp only [LV, hdV, mcons, List.nil_append, LZ, seval, reduceCtorEq, forall_const])) (by (simp only [LV, hdV, Hd.v, Hd.stop, upd, ite_W, mcons, List.nil_append, erN_none, erN_some, LZ, seval, reduceCtorEq, forall_const, LY, seval, reduceCtorEq, implies_true]))

theorem runs_nxOrc34 {M : Seat} (ok : OkQ M) (I : MemI M) (g : Nat → BitVec 64) (pc : BitVec 64) (xt : BitVec 64) (s : I.σ) (hz : I.Z s) (hpc : ¬ 8192#64 ≤ pc) (w : BitVec 64) (hw : (I.mm.rd s pc).1 = w) (he : (I.mm.rd s pc).2.1 = none) (s1 : I.σ) (hs : (I.mm.rd s pc).2.2 = s1) (hop : pOp w = 34) (h2 : w >>> 32 &&& 255#64 = 0#64) (h3 : wi (g (pF w 48)) 8#64 = true) (h4 : wi (g (pF w 44)) 4#64 = true) (q : Hd × Option Int × I.σ) (hq : orc I.mm 34 ⟨g, pc, false, xt⟩ s1 (g (pF w 48)) (g (pF w 44)) = q) :
    Runs M 241 [hdV g pc false xt, .ifc I.t (.ptr 0 [])] (I.E0 s) I.k0 (fun r H' k' => r = tup2 (q.1.v) (erO (q.2.1)) ∧ H' = I.E (q.2.2) I.k0 ∧ k' = I.k0 + 1) := by
  refine runs_fr ok.okN.k241 rfl fun x hx => ?_
  refine SemK.up (N' := 32) (by have := I.hk; omega) ?_
  have a1 := pF_lt w 52
  have a2 := pF_lt w 48
  have a3 := pF_lt w 44
  have a4 := pF_lt w 40
  have hL : I.len s1 ≤ 100 := by have := I.lr s pc; rw [hs, I.lz s hz] at this; omega
  obtain ⟨⟨g1, pc1, hl1, xt1⟩, e1, s2⟩ := q
  have hL1 : I.len s1 ≤ 1 := by have := I.lr s pc; rw [hs, I.lz s hz] at this; omega
  refine ex_sound 2000 _ _ _ _ ?_; (simp (maxSteps := 4000000) only [f241, c241, hdV, I.hdel0, hpc, LZ, seval, reduceCtorEq, forall_const])
  refine I.dynR0 [_, _] hz hpc (by rfl) ?_
  rw [hw, he, hs]
  (simp (maxSteps := 4000000) only [erN_none, tup2, List.nil_append, LZ, seval, reduceCtorEq, forall_const])
  refine call_pA (runs_Parts ok.ok.toOkV w (by omega) h2) (by ((try simp only [partsR, LY, seval, reduceCtorEq, implies_true]); first | done | exact True.intro | rfl)) (by first | rfl | (simp only [LN, LP, V.ren, tup2, tup3])) (by simp only [partsR, LX, implies_true]) ?_
  (simp (maxSteps := 4000000) only [partsR, hop, I.idsE, LZ, seval, reduceCtorEq, forall_const])
  repeat (refine And.intro (by first | omega | exact True.intro | rfl) ?_)
  refine ⟨_, _, I.ck [_, _] (runs_orc34 ok I g pc xt _ _ s1 hL1 h3 h4 _ hq) flatO (flatH _ _ _ _ _) (by have := I.hk; omega) (ow_mem (by rfl)) ⟨rfl, rfl⟩, ?_⟩
  (simp (maxSteps := 4000000) only [tup2, Hd.v, hdV, List.nil_append, I.idsE, LZ, seval, reduceCtorEq, forall_const])
  repeat (refine And.intro (by first | omega | exact True.intro | rfl) ?_)
  have hE : ∀ H m z, Sim H m z (erO e1) (erO e1) := fun H m z => Sim_er e1 H m z

  exact I.ret [_, _] (q := I.k0) ⟨Nat.le_refl _, by have := I.hk; omega⟩ hx (by decide) (by rfl) ⟨rfl, rfl, rfl⟩ (by (simp only [LV, hE, tpp_er, tpc_er, hdV, mcons, List.nil_append, LZ, seval, reduceCtorEq, forall_const])) (by (simp only [LV, hE, tpp_er, tpc_er, hdV, Hd.v, Hd.stop, upd, ite_W, mcons, List.nil_append, erN_none, erN_some, LZ, seval, reduceCtorEq, forall_const, LY, seval, reduceCtorEq, implies_true]))

theorem runs_nxOrcW35 {M : Seat} (ok : OkQ M) (I : MemI M) (g : Nat → BitVec 64) (pc : BitVec 64) (xt : BitVec 64) (s : I.σ) (hz : I.Z s) (hpc : ¬ 8192#64 ≤ pc) (w : BitVec 64) (hw : (I.mm.rd s pc).1 = w) (he : (I.mm.rd s pc).2.1 = none) (s1 : I.σ) (hs : (I.mm.rd s pc).2.2 = s1) (hop : pOp w = 35) (h2 : w >>> 32 &&& 255#64 = 0#64) (h : (wi (g (pF w 48)) 4#64 && wi (g (pF w 44)) 8#64) = false) :
    Runs M 241 [hdV g pc false xt, .ifc I.t (.ptr 0 [])] (I.E0 s) I.k0 (fun r H' k' => r = tup2 (hdV g pc true wrongW) (erO (none)) ∧ H' = I.E (s1) I.k0 ∧ k' = I.k0 + 1) := by
  refine runs_fr ok.okN.k241 rfl fun x hx => ?_
  refine SemK.up (N' := 32) (by have := I.hk; omega) ?_
  have a1 := pF_lt w 52
  have a2 := pF_lt w 48
  have a3 := pF_lt w 44
  have a4 := pF_lt w 40
  have hL : I.len s1 ≤ 100 := by have := I.lr s pc; rw [hs, I.lz s hz] at this; omega
  refine ex_sound 2000 _ _ _ _ ?_; (simp (maxSteps := 4000000) only [f241, c241, hdV, I.hdel0, hpc, LZ, seval, reduceCtorEq, forall_const])
  refine I.dynR0 [_, _] hz hpc (by rfl) ?_
  rw [hw, he, hs]
  (simp (maxSteps := 4000000) only [erN_none, tup2, List.nil_append, LZ, seval, reduceCtorEq, forall_const])
  refine call_pA (runs_Parts ok.ok.toOkV w (by omega) h2) (by ((try simp only [partsR, LY, seval, reduceCtorEq, implies_true]); first | done | exact True.intro | rfl)) (by first | rfl | (simp only [LN, LP, V.ren, tup2, tup3])) (by simp only [partsR, LX, implies_true]) ?_
  (simp (maxSteps := 4000000) only [partsR, hop, I.idsE, LZ, seval, reduceCtorEq, forall_const])
  repeat (refine And.intro (by first | omega | exact True.intro | rfl) ?_)
  refine ⟨_, _, I.cu [_, _] (runs_orcW35 ok I g pc xt _ _ s1 h) flatO (fun m => rfl) (by have := I.hk; omega) (ow_mem (by rfl)) ⟨rfl, rfl⟩, ?_⟩
  (simp (maxSteps := 4000000) only [tup2, hdV, List.nil_append, I.idsE, LZ, seval, reduceCtorEq, forall_const])

  exact I.ret [_, _] (q := I.k0) ⟨Nat.le_refl _, by have := I.hk; omega⟩ hx (by decide) (by rfl) ⟨rfl, rfl, rfl⟩ (by (simp only [LV, hdV, mcons, List.nil_append, LZ, seval, reduceCtorEq, forall_const])) (by (simp only [LV, hdV, Hd.v, Hd.stop, upd, ite_W, mcons, List.nil_append, erN_none, erN_some, LZ, seval, reduceCtorEq, forall_const, LY, seval, reduceCtorEq, implies_true]))

theorem runs_nxOrc35 {M : Seat} (ok : OkQ M) (I : MemI M) (g : Nat → BitVec 64) (pc : BitVec 64) (xt : BitVec 64) (s : I.σ) (hz : I.Z s) (hpc : ¬ 8192#64 ≤ pc) (w : BitVec 64) (hw : (I.mm.rd s pc).1 = w) (he : (I.mm.rd s pc).2.1 = none) (s1 : I.σ) (hs : (I.mm.rd s pc).2.2 = s1) (hop : pOp w = 35) (h2 : w >>> 32 &&& 255#64 = 0#64) (h3 : wi (g (pF w 48)) 4#64 = true) (h4 : wi (g (pF w 44)) 8#64 = true) (q : Hd × Option Int × I.σ) (hq : orc I.mm 35 ⟨g, pc, false, xt⟩ s1 (g (pF w 48)) (g (pF w 44)) = q) :
    Runs M 241 [hdV g pc false xt, .ifc I.t (.ptr 0 [])] (I.E0 s) I.k0 (fun r H' k' => r = tup2 (q.1.v) (erO (q.2.1)) ∧ H' = I.E (q.2.2) I.k0 ∧ k' = I.k0 + 1) := by
  refine runs_fr ok.okN.k241 rfl fun x hx => ?_
  refine SemK.up (N' := 32) (by have := I.hk; omega) ?_
  have a1 := pF_lt w 52
  have a2 := pF_lt w 48
  have a3 := pF_lt w 44
  have a4 := pF_lt w 40
  have hL : I.len s1 ≤ 100 := by have := I.lr s pc; rw [hs, I.lz s hz] at this; omega
  obtain ⟨⟨g1, pc1, hl1, xt1⟩, e1, s2⟩ := q
  have hL1 : I.len s1 ≤ 1 := by have := I.lr s pc; rw [hs, I.lz s hz] at this; omega
  refine ex_sound 2000 _ _ _ _ ?_; (simp (maxSteps := 4000000) only [f241, c241, hdV, I.hdel0, hpc, LZ, seval, reduceCtorEq, forall_const])
  refine I.dynR0 [_, _] hz hpc (by rfl) ?_
  rw [hw, he, hs]
  (simp (maxSteps := 4000000) only [erN_none, tup2, List.nil_append, LZ, seval, reduceCtorEq, forall_const])
  refine call_pA (runs_Parts ok.ok.toOkV w (by omega) h2) (by ((try simp only [partsR, LY, seval, reduceCtorEq, implies_true]); first | done | exact True.intro | rfl)) (by first | rfl | (simp only [LN, LP, V.ren, tup2, tup3])) (by simp only [partsR, LX, implies_true]) ?_
  (simp (maxSteps := 4000000) only [partsR, hop, I.idsE, LZ, seval, reduceCtorEq, forall_const])
  repeat (refine And.intro (by first | omega | exact True.intro | rfl) ?_)
  refine ⟨_, _, I.ck [_, _] (runs_orc35 ok I g pc xt _ _ s1 hL1 h3 h4 _ hq) flatO (flatH _ _ _ _ _) (by have := I.hk; omega) (ow_mem (by rfl)) ⟨rfl, rfl⟩, ?_⟩
  (simp (maxSteps := 4000000) only [tup2, Hd.v, hdV, List.nil_append, I.idsE, LZ, seval, reduceCtorEq, forall_const])
  repeat (refine And.intro (by first | omega | exact True.intro | rfl) ?_)
  have hE : ∀ H m z, Sim H m z (erO e1) (erO e1) := fun H m z => Sim_er e1 H m z

  exact I.ret [_, _] (q := I.k0) ⟨Nat.le_refl _, by have := I.hk; omega⟩ hx (by decide) (by rfl) ⟨rfl, rfl, rfl⟩ (by (simp only [LV, hE, tpp_er, tpc_er, hdV, mcons, List.nil_append, LZ, seval, reduceCtorEq, forall_const])) (by (simp only [LV, hE, tpp_er, tpc_er, hdV, Hd.v, Hd.stop, upd, ite_W, mcons, List.nil_append, erN_none, erN_some, LZ, seval, reduceCtorEq, forall_const, LY, seval, reduceCtorEq, implies_true]))
end Mv
namespace Mv
open Go
set_option maxRecDepth 20000
set_option maxHeartbeats 4000000

theorem isI_iff (w : BitVec 64) : isI w = true ↔ (pOp w ≤ 35 ∧ w >>> 32 &&& 255#64 = 0#64) := by simp [isI]
theorem runs_next {M : Seat} (ok : OkQ M) (I : MemI M) (h : Hd) (s : I.σ) (hz : I.Z s) (hl : h.hl = false) (hpc : ¬ 8192#64 ≤ h.pc) (q : Hd × Option Int × I.σ) (hq : nx I.mm h s = q) :
    Runs M 241 [h.v, .ifc I.t (.ptr 0 [])] (I.E0 s) I.k0 (fun r H' k' => r = tup2 q.1.v (erO q.2.1) ∧ H' = I.E q.2.2 I.k0 ∧ k' = I.k0 + 1) := by
  obtain ⟨g, pc, hl', xt⟩ := h
  dsimp only at hl hpc
  subst hl
  rw [nx] at hq
  cases he : (I.mm.rd s pc).2.1 with
  | some e =>
    have h0 := runs_nxErr ok I g pc xt s hz hpc e he
    dsimp only at hq
    rw [he] at hq
    subst hq
    exact h0
  | none =>
    dsimp only at hq
    rw [he] at hq
    dsimp only at hq
    generalize hw : (I.mm.rd s pc).1 = w at hq
    generalize hs : (I.mm.rd s pc).2.2 = s1 at hq
    unfold nx1 at hq
    by_cases q0 : isI w = false
    · rw [if_pos q0] at hq; subst hq
      exact runs_nxNo ok I g pc xt s hz hpc w hw he s1 hs (fun h => by rw [(isI_iff w).2 h] at q0; cases q0)
    rw [if_neg q0] at hq
    obtain ⟨h35, h2⟩ := (isI_iff w).1 (by simpa using q0)
    by_cases q1 : pOp w = 0
    · rw [if_pos q1] at hq; subst hq
      exact runs_nxHalt ok I g pc xt s hz hpc w hw he s1 hs q1 h2
    rw [if_neg q1] at hq
    by_cases q2 : pOp w < 26
    · rw [if_pos q2] at hq; subst hq
      exact runs_nxApply ok I g pc xt s hz hpc w hw he s1 hs (pOp w) (by omega) (by omega) rfl h2
    rw [if_neg q2] at hq
    by_cases q3 : pOp w = 26
    · rw [if_pos q3] at hq; subst hq
      exact runs_nxLi ok I g pc xt s hz hpc w hw he s1 hs q3 h2
    rw [if_neg q3] at hq
    by_cases q4 : pOp w = 27 ∨ pOp w = 28
    · rw [if_pos q4] at hq
      by_cases q5 : 8192#64 ≤ g (pF w 48) + BitVec.ofInt 64 (pN w)
      · rw [if_pos q5] at hq; subst hq
        rcases q4 with q4 | q4
        · exact runs_nxLdW ok I g pc xt s hz hpc w hw he s1 hs q4 h2 _ rfl q5
        · exact runs_nxStW ok I g pc xt s hz hpc w hw he s1 hs q4 h2 _ rfl q5
      rw [if_neg q5] at hq
      by_cases q6 : pOp w = 27
      · rw [if_pos q6] at hq; subst hq
        dsimp only
        cases he2 : (I.mm.rd s1 (g (pF w 48) + BitVec.ofInt 64 (pN w))).2.1 with
        | none => exact runs_nxLd ok I g pc xt s hz hpc w hw he s1 hs q6 h2 _ rfl q5 he2
        | some e => exact runs_nxLdE ok I g pc xt s hz hpc w hw he s1 hs q6 h2 _ rfl q5 e he2
      · rw [if_neg q6] at hq; subst hq
        dsimp only
        have q6 : pOp w = 28 := q4.resolve_left q6
        cases he2 : (I.mm.wr s1 (g (pF w 48) + BitVec.ofInt 64 (pN w)) (g (pF w 44))).1 with
        | none => exact runs_nxSt ok I g pc xt s hz hpc w hw he s1 hs q6 h2 _ rfl q5 he2
        | some e => exact runs_nxStE ok I g pc xt s hz hpc w hw he s1 hs q6 h2 _ rfl q5 e he2
    rw [if_neg q4] at hq
    by_cases q7 : pOp w < 34
    · rw [if_pos q7] at hq; subst hq
      exact runs_nxJump ok I g pc xt s hz hpc w hw he s1 hs (pOp w) (by omega) rfl h2
    rw [if_neg q7] at hq
    by_cases q8 : pOp w = 34
    · dsimp only at hq
      rw [q8] at hq
      by_cases q9 : (wi (g (pF w 48)) 8#64 && wi (g (pF w 44)) 4#64) = false
      · have : orc I.mm 34 ⟨g, pc, false, xt⟩ s1 (g (pF w 48)) (g (pF w 44)) = ((⟨g, pc, false, xt⟩ : Hd).stop wrongW, none, s1) := by rw [orc, if_pos]; exact q9
        rw [this] at hq; subst hq
        exact runs_nxOrcW34 ok I g pc xt s hz hpc w hw he s1 hs q8 h2 q9
      · simp only [Bool.not_eq_false, Bool.and_eq_true] at q9
        exact runs_nxOrc34 ok I g pc xt s hz hpc w hw he s1 hs q8 h2 q9.1 q9.2 q hq
    · have q8 : pOp w = 35 := by omega
      dsimp only at hq
      rw [q8] at hq
      by_cases q9 : (wi (g (pF w 48)) 4#64 && wi (g (pF w 44)) 8#64) = false
      · have : orc I.mm 35 ⟨g, pc, false, xt⟩ s1 (g (pF w 48)) (g (pF w 44)) = ((⟨g, pc, false, xt⟩ : Hd).stop wrongW, none, s1) := by rw [orc, if_pos]; exact q9
        rw [this] at hq; subst hq
        exact runs_nxOrcW35 ok I g pc xt s hz hpc w hw he s1 hs q8 h2 q9
      · simp only [Bool.not_eq_false, Bool.and_eq_true] at q9
        exact runs_nxOrc35 ok I g pc xt s hz hpc w hw he s1 hs q8 h2 q9.1 q9.2 q hq
end Mv
