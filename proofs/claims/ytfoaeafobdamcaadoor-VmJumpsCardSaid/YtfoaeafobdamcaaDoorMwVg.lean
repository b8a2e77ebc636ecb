/- Words of instructions; loading. -/
import Derived.Test.YtfoaeafobdamcaaDoorMwVf
set_option linter.unusedSimpArgs false
set_option linter.unusedVariables false
namespace Mv
open Go
set_option maxRecDepth 20000
set_option maxHeartbeats 4000000
set_option linter.unusedSimpArgs false

structure In where
  op : Int
  d : Int
  a : Int
  b : Int
  c : Int
  n : Int
  raw : BitVec 64
instance : Inhabited In := ⟨⟨0, 0, 0, 0, 0, 0, 0#64⟩⟩
def insV (x : In) : V := .st 7 (.fcons 0 (.int .i64 x.op) (.fcons 1 (.int .i64 x.d) (.fcons 2 (.int .i64 x.a) (.fcons 3 (.int .i64 x.b) (.fcons 4 (.int .i64 x.c) (.fcons 5 (.int .i64 x.n) (.fcons 6 (W x.raw) .fnil)))))))
def m16 (d : Int) : Nat := (BitVec.ofInt 64 d % 16#64).toNat
theorem m16_lt (d : Int) : m16 d < 16 := by rw [m16, BitVec.toNat_umod]; exact Nat.mod_lt _ (by decide)
theorem m16_int (d : Int) : (BitVec.ofInt 64 d % 16#64).toInt = (m16 d : Int) := by
  have := m16_lt d
  rw [BitVec.toInt_eq_toNat_cond, if_pos (by unfold m16 at this; omega)]; rfl
def wordOf (x : In) : BitVec 64 := if rcOk x.op x.n then rcW x.op (m16 x.d) (m16 x.a) (m16 x.b) (m16 x.c) x.n else x.raw
def insL (l : List In) : V := .lst 7 l.length (fun j => insV (l.getD j default))

theorem runs_WordsNil {M : Seat} (ok : OkI M) (v : V) (hv : v = .nils ∨ v = insL []) : Runs M 75 [v] [] 0 (fun r H' k' => r = .nils ∧ H' = [] ∧ k' = 0) := by
  refine runs_fr ok.k75 rfl fun x hx => ?_
  rcases hv with rfl | rfl
  · refine ex_sound 2000 _ _ _ _ ?_; (simp (maxSteps := 4000000) only [f75, c75, LG, LP, LN, V.ren, renH, hrest, numsF, epk, epochs, Mv.hx, idsOK, bs, wmask, LK.isW, LK.isA, LK.isP, num, X.ev, vbuild, vbuildOK, vcaps, vcapsOK, hget, hset, hdel, hhas, padd, V.ok, V.get, V.set, V.fget, V.fhas, V.fset, noR, Z.v, Z.sz, dropTo, seval, reduceCtorEq, forall_const])
    refine loop_once ?_
    refine ex_sound 2000 _ _ _ _ ?_
    (simp (maxSteps := 4000000) only [LG, LP, LN, V.ren, renH, hrest, numsF, epk, epochs, Mv.hx, idsOK, bs, wmask, LK.isW, LK.isA, LK.isP, num, X.ev, vbuild, vbuildOK, vcaps, vcapsOK, hget, hset, hdel, hhas, padd, V.ok, V.get, V.set, V.fget, V.fhas, V.fset, noR, Z.v, Z.sz, dropTo, seval, reduceCtorEq, forall_const])
    refine RetS.mk hx [] [] _ _ _ (by decide) (by (simp only [res, resPs, resP, LTP, resV, tup2, tup3, dg, LG, LP, LN, V.ren, renH, hrest, numsF, epk, epochs, Mv.hx, idsOK, bs, wmask, LK.isW, LK.isA, LK.isP, num, X.ev, vbuild, vbuildOK, vcaps, vcapsOK, hget, hset, hdel, hhas, padd, V.ok, V.get, V.set, V.fget, V.fhas, V.fset, noR, Z.v, Z.sz, dropTo, seval, reduceCtorEq, forall_const])) (by ((try simp only [res, resV, LTP, tup2, tup3, LG, LP, LN, V.ren, renH, hrest, numsF, epk, epochs, Mv.hx, idsOK, bs, wmask, LK.isW, LK.isA, LK.isP, num, X.ev, vbuild, vbuildOK, vcaps, vcapsOK, hget, hset, hdel, hhas, padd, V.ok, V.get, V.set, V.fget, V.fhas, V.fset, noR, Z.v, Z.sz, dropTo, seval, reduceCtorEq, forall_const, Dg.at_zero, Sim_mach, solid_mach, LT, LP, SimL, SimA, Sim, SimH, frzA, frzX, hget, hhas, V.ok, V.get, V.fget, V.fhas, seval, reduceCtorEq, implies_true, dg]); first | done | exact True.intro | (intros; rfl))) (by ((try simp only [Dg.at_zero, Sim_mach, solid_mach, LT, LP, SimL, SimA, Sim, SimH, frzA, frzX, hget, hhas, V.ok, V.get, V.fget, V.fhas, seval, reduceCtorEq, implies_true]); first | done | exact True.intro | (intros; rfl))) ⟨rfl, rfl, rfl⟩
  · refine ex_sound 2000 _ _ _ _ ?_; (simp (maxSteps := 4000000) only [f75, c75, insL, List.length_nil, LG, LP, LN, V.ren, renH, hrest, numsF, epk, epochs, Mv.hx, idsOK, bs, wmask, LK.isW, LK.isA, LK.isP, num, X.ev, vbuild, vbuildOK, vcaps, vcapsOK, hget, hset, hdel, hhas, padd, V.ok, V.get, V.set, V.fget, V.fhas, V.fset, noR, Z.v, Z.sz, dropTo, seval, reduceCtorEq, forall_const])
    refine loop_once ?_
    refine ex_sound 2000 _ _ _ _ ?_
    (simp (maxSteps := 4000000) only [LG, LP, LN, V.ren, renH, hrest, numsF, epk, epochs, Mv.hx, idsOK, bs, wmask, LK.isW, LK.isA, LK.isP, num, X.ev, vbuild, vbuildOK, vcaps, vcapsOK, hget, hset, hdel, hhas, padd, V.ok, V.get, V.set, V.fget, V.fhas, V.fset, noR, Z.v, Z.sz, dropTo, seval, reduceCtorEq, forall_const])
    refine RetS.mk hx [] [] _ _ _ (by decide) (by (simp only [res, resPs, resP, LTP, resV, tup2, tup3, dg, LG, LP, LN, V.ren, renH, hrest, numsF, epk, epochs, Mv.hx, idsOK, bs, wmask, LK.isW, LK.isA, LK.isP, num, X.ev, vbuild, vbuildOK, vcaps, vcapsOK, hget, hset, hdel, hhas, padd, V.ok, V.get, V.set, V.fget, V.fhas, V.fset, noR, Z.v, Z.sz, dropTo, seval, reduceCtorEq, forall_const])) (by ((try simp only [res, resV, LTP, tup2, tup3, LG, LP, LN, V.ren, renH, hrest, numsF, epk, epochs, Mv.hx, idsOK, bs, wmask, LK.isW, LK.isA, LK.isP, num, X.ev, vbuild, vbuildOK, vcaps, vcapsOK, hget, hset, hdel, hhas, padd, V.ok, V.get, V.set, V.fget, V.fhas, V.fset, noR, Z.v, Z.sz, dropTo, seval, reduceCtorEq, forall_const, Dg.at_zero, Sim_mach, solid_mach, LT, LP, SimL, SimA, Sim, SimH, frzA, frzX, hget, hhas, V.ok, V.get, V.fget, V.fhas, seval, reduceCtorEq, implies_true, dg]); first | done | exact True.intro | (intros; rfl))) (by ((try simp only [Dg.at_zero, Sim_mach, solid_mach, LT, LP, SimL, SimA, Sim, SimH, frzA, frzX, hget, hhas, V.ok, V.get, V.fget, V.fhas, seval, reduceCtorEq, implies_true]); first | done | exact True.intro | (intros; rfl))) ⟨rfl, rfl, rfl⟩

theorem runs_Words {M : Seat} (ok : OkI M) (l : List In) (h0 : 0 < l.length) (hl : l.length < 9223372036854775808) :
    Runs M 75 [insL l] [] 0 (fun r H' k' => r = .sl 0 [] 0 (min l.length 8192) 1 ∧ H' = [(0, .ar 1 (min l.length 8192) (fun j => W (wordOf (l.getD j default))))] ∧ k' = 1) := by
  refine runs_fr ok.k75 rfl fun x hx => ?_
  refine ex_sound 2000 _ _ _ _ ?_; (simp (maxSteps := 4000000) only [f75, c75, insL, LG, LP, LN, V.ren, renH, hrest, numsF, epk, epochs, Mv.hx, idsOK, bs, wmask, LK.isW, LK.isA, LK.isP, num, X.ev, vbuild, vbuildOK, vcaps, vcapsOK, hget, hset, hdel, hhas, padd, V.ok, V.get, V.set, V.fget, V.fhas, V.fset, noR, Z.v, Z.sz, dropTo, seval, reduceCtorEq, forall_const])
  refine loop_once ?_
  refine ex_sound 2000 _ _ _ _ ?_
  have d0 : ((0 : Int) < (l.length : Int)) = True := eq_true (by omega)
  have d1 : (0 < l.length) = True := eq_true h0
  (simp (maxSteps := 4000000) only [d0, d1, insV, m16_int, LG, LP, LN, V.ren, renH, hrest, numsF, epk, epochs, Mv.hx, idsOK, bs, wmask, LK.isW, LK.isA, LK.isP, num, X.ev, vbuild, vbuildOK, vcaps, vcapsOK, hget, hset, hdel, hhas, padd, V.ok, V.get, V.set, V.fget, V.fhas, V.fset, noR, Z.v, Z.sz, dropTo, seval, reduceCtorEq, forall_const])
  have hc := fun q : Nat => runs_refCode ok (l.getD q default).op (m16 (l.getD q default).d) (m16 (l.getD q default).a) (m16 (l.getD q default).b) (m16 (l.getD q default).c) (l.getD q default).n (m16_lt _) (m16_lt _) (m16_lt _) (m16_lt _)
  refine call_pA (hc 0) (by ((try simp only [Dg.at_zero, Sim_mach, solid_mach, LT, LP, SimL, SimA, Sim, SimH, frzA, frzX, hget, hhas, V.ok, V.get, V.fget, V.fhas, seval, reduceCtorEq, implies_true]); first | done | exact True.intro | rfl)) (by first | rfl | (simp only [LN, LP, V.ren, tup2, tup3])) (by simp only [tup2, tup3, laidH, refm, mach, NoIm, NoIm_W, NoIm_B, NoIm_dg', NoImL, ws, implies_true, and_self]) ?_
  have wo : ∀ q : Nat, wordOf (l.getD q default) = if rcOk (l.getD q default).op (l.getD q default).n then rcW (l.getD q default).op (m16 (l.getD q default).d) (m16 (l.getD q default).a) (m16 (l.getD q default).b) (m16 (l.getD q default).c) (l.getD q default).n else (l.getD q default).raw := fun q => rfl
  have w1 : IntKind.i64.wrap 1 = 1 := rfl
  cases he : rcOk (l.getD 0 default).op (l.getD 0 default).n with
  | false =>
    have wo0 := wo 0
    rw [he] at wo0
    simp only [if_true, if_false, Bool.false_eq_true] at wo0
    (simp (maxSteps := 4000000) only [tup2, he, w1, LG, LP, LN, V.ren, renH, hrest, numsF, epk, epochs, Mv.hx, idsOK, bs, wmask, LK.isW, LK.isA, LK.isP, num, X.ev, vbuild, vbuildOK, vcaps, vcapsOK, hget, hset, hdel, hhas, padd, V.ok, V.get, V.set, V.fget, V.fhas, V.fset, noR, Z.v, Z.sz, dropTo, seval, reduceCtorEq, forall_const])
    refine loop_rule (σ := Nat) (fun q => 1 ≤ q ∧ q ≤ min l.length 8192) (fun q => fr 55 [(8, insL l), (9, .int .i64 l.length), (10, .int .i64 q), (3, .sl 0 [] 0 q 1)])
      (fun q => [(0, .ar 1 q (fun j => W (wordOf (l.getD j default))))]) (fun _ => 1) (fun q => min l.length 8192 - q) 1 (by omega) ?_ ?_
    · refine Weak.fr [832] [] hx (by simp only [fr_length]) (by decide) ?_ ?_
      · simp only [insL, insV, Dg.at_zero, Sim_mach, solid_mach, LT, LP, SimL, SimA, Sim, SimH, frzA, frzX, hget, hhas, V.ok, V.get, V.fget, V.fhas, seval, reduceCtorEq, implies_true]
      · simp only [Dg.at_zero, Sim_mach, solid_mach, LT, LP, SimL, SimA, Sim, SimH, frzA, frzX, hget, hhas, V.ok, V.get, V.fget, V.fhas, seval, reduceCtorEq, implies_true]
        intro j hj
        obtain rfl : j = 0 := by omega
        rw [if_pos rfl, wo0]; exact (Sim_W _ _ _ _ _).mpr rfl
    · intro q ⟨hq1, hq⟩
      refine ex_sound 2000 _ _ _ _ ?_
      by_cases hqn : q = l.length
      · have d0 : ((q : Int) < (l.length : Int)) = False := eq_false (by omega)
        (simp (maxSteps := 4000000) only [insL, d0, LG, LP, LN, V.ren, renH, hrest, numsF, epk, epochs, Mv.hx, idsOK, bs, wmask, LK.isW, LK.isA, LK.isP, num, X.ev, vbuild, vbuildOK, vcaps, vcapsOK, hget, hset, hdel, hhas, padd, V.ok, V.get, V.set, V.fget, V.fhas, V.fset, noR, Z.v, Z.sz, dropTo, seval, reduceCtorEq, forall_const])
        have hm : min l.length 8192 = q := by omega
        rw [hm]
        refine RetS.mk hx [0] [] _ _ _ (by decide) (by (simp only [res, resPs, resP, LTP, resV, tup2, tup3, dg, LG, LP, LN, V.ren, renH, hrest, numsF, epk, epochs, Mv.hx, idsOK, bs, wmask, LK.isW, LK.isA, LK.isP, num, X.ev, vbuild, vbuildOK, vcaps, vcapsOK, hget, hset, hdel, hhas, padd, V.ok, V.get, V.set, V.fget, V.fhas, V.fset, noR, Z.v, Z.sz, dropTo, seval, reduceCtorEq, forall_const])) (by ((try simp only [res, resV, LTP, tup2, tup3, LG, LP, LN, V.ren, renH, hrest, numsF, epk, epochs, Mv.hx, idsOK, bs, wmask, LK.isW, LK.isA, LK.isP, num, X.ev, vbuild, vbuildOK, vcaps, vcapsOK, hget, hset, hdel, hhas, padd, V.ok, V.get, V.set, V.fget, V.fhas, V.fset, noR, Z.v, Z.sz, dropTo, seval, reduceCtorEq, forall_const, Dg.at_zero, Sim_mach, solid_mach, LT, LP, SimL, SimA, Sim, SimH, frzA, frzX, hget, hhas, V.ok, V.get, V.fget, V.fhas, seval, reduceCtorEq, implies_true, dg]); first | done | exact True.intro | (intros; rfl))) (by ((try simp only [Dg.at_zero, Sim_mach, solid_mach, LT, LP, SimL, SimA, Sim, SimH, frzA, frzX, hget, hhas, V.ok, V.get, V.fget, V.fhas, seval, reduceCtorEq, implies_true]); first | done | exact True.intro | (intros; rfl))) ⟨rfl, rfl, rfl⟩
      · have d0 : ((q : Int) < (l.length : Int)) = True := eq_true (by omega)
        have d1 : (q < l.length) = True := eq_true (by omega)
        by_cases hq8 : q = 8192
        · have d2 : ((8192 : Int) ≤ (q : Int)) = True := eq_true (by omega)
          (simp (maxSteps := 4000000) only [insL, insV, d0, d1, d2, LG, LP, LN, V.ren, renH, hrest, numsF, epk, epochs, Mv.hx, idsOK, bs, wmask, LK.isW, LK.isA, LK.isP, num, X.ev, vbuild, vbuildOK, vcaps, vcapsOK, hget, hset, hdel, hhas, padd, V.ok, V.get, V.set, V.fget, V.fhas, V.fset, noR, Z.v, Z.sz, dropTo, seval, reduceCtorEq, forall_const])
          repeat (refine And.intro (by first | omega | exact True.intro | rfl) ?_)
          have hm : min l.length 8192 = q := by omega
          rw [hm]
          refine RetS.mk hx [0] [] _ _ _ (by decide) (by (simp only [res, resPs, resP, LTP, resV, tup2, tup3, dg, LG, LP, LN, V.ren, renH, hrest, numsF, epk, epochs, Mv.hx, idsOK, bs, wmask, LK.isW, LK.isA, LK.isP, num, X.ev, vbuild, vbuildOK, vcaps, vcapsOK, hget, hset, hdel, hhas, padd, V.ok, V.get, V.set, V.fget, V.fhas, V.fset, noR, Z.v, Z.sz, dropTo, seval, reduceCtorEq, forall_const])) (by ((try simp only [res, resV, LTP, tup2, tup3, LG, LP, LN, V.ren, renH, hrest, numsF, epk, epochs, Mv.hx, idsOK, bs, wmask, LK.isW, LK.isA, LK.isP, num, X.ev, vbuild, vbuildOK, vcaps, vcapsOK, hget, hset, hdel, hhas, padd, V.ok, V.get, V.set, V.fget, V.fhas, V.fset, noR, Z.v, Z.sz, dropTo, seval, reduceCtorEq, forall_const, Dg.at_zero, Sim_mach, solid_mach, LT, LP, SimL, SimA, Sim, SimH, frzA, frzX, hget, hhas, V.ok, V.get, V.fget, V.fhas, seval, reduceCtorEq, implies_true, dg]); first | done | exact True.intro | (intros; rfl))) (by ((try simp only [Dg.at_zero, Sim_mach, solid_mach, LT, LP, SimL, SimA, Sim, SimH, frzA, frzX, hget, hhas, V.ok, V.get, V.fget, V.fhas, seval, reduceCtorEq, implies_true]); first | done | exact True.intro | (intros; rfl))) ⟨rfl, rfl, rfl⟩
        · have d2 : ((8192 : Int) ≤ (q : Int)) = False := eq_false (by omega)
          have w0 : IntKind.i64.wrap ((q : Int) + 1) = ((q + 1 : Nat) : Int) := by rw [wrap_i64 (by omega)]; omega
          have woq := wo q
          (simp (maxSteps := 4000000) only [insL, insV, m16_int, d0, d1, d2, LG, LP, LN, V.ren, renH, hrest, numsF, epk, epochs, Mv.hx, idsOK, bs, wmask, LK.isW, LK.isA, LK.isP, num, X.ev, vbuild, vbuildOK, vcaps, vcapsOK, hget, hset, hdel, hhas, padd, V.ok, V.get, V.set, V.fget, V.fhas, V.fset, noR, Z.v, Z.sz, dropTo, seval, reduceCtorEq, forall_const])
          repeat (refine And.intro (by first | omega | exact True.intro | rfl) ?_)
          refine call_pA (hc q) (by ((try simp only [Dg.at_zero, Sim_mach, solid_mach, LT, LP, SimL, SimA, Sim, SimH, frzA, frzX, hget, hhas, V.ok, V.get, V.fget, V.fhas, seval, reduceCtorEq, implies_true]); first | done | exact True.intro | rfl)) (by first | rfl | (simp only [LN, LP, V.ren, tup2, tup3])) (by simp only [tup2, tup3, laidH, refm, mach, NoIm, NoIm_W, NoIm_B, NoIm_dg', NoImL, ws, implies_true, and_self]) ?_
          cases hk : rcOk (l.getD q default).op (l.getD q default).n with
          | false =>
            rw [hk] at woq
            simp only [if_true, if_false, Bool.false_eq_true] at woq
            (simp (maxSteps := 4000000) only [tup2, hk, w0, LG, LP, LN, V.ren, renH, hrest, numsF, epk, epochs, Mv.hx, idsOK, bs, wmask, LK.isW, LK.isA, LK.isP, num, X.ev, vbuild, vbuildOK, vcaps, vcapsOK, hget, hset, hdel, hhas, padd, V.ok, V.get, V.set, V.fget, V.fhas, V.fset, noR, Z.v, Z.sz, dropTo, seval, reduceCtorEq, forall_const])
            repeat (refine And.intro (by first | omega | exact True.intro | rfl) ?_)
            refine ⟨q + 1, by omega, by omega, by omega, ?_⟩
            refine Weak.fr [753] [] hx (by simp only [fr_length]) (by decide) ?_ ?_
            · simp only [insL, insV, Dg.at_zero, Sim_mach, solid_mach, LT, LP, SimL, SimA, Sim, SimH, frzA, frzX, hget, hhas, V.ok, V.get, V.fget, V.fhas, seval, reduceCtorEq, implies_true]
            · simp only [Dg.at_zero, Sim_mach, solid_mach, LT, LP, SimL, SimA, Sim, SimH, frzA, frzX, hget, hhas, V.ok, V.get, V.fget, V.fhas, seval, reduceCtorEq, implies_true]
              intro j hj
              by_cases hjq : j < q
              · rw [if_pos hjq]; exact (Sim_W _ _ _ _ _).mpr rfl
              · obtain rfl : j = q := by omega
                rw [if_neg hjq, if_pos (by omega), woq]; exact (Sim_W _ _ _ _ _).mpr rfl
          | true =>
            rw [hk] at woq
            simp only [if_true, if_false, Bool.false_eq_true] at woq
            (simp (maxSteps := 4000000) only [tup2, hk, w0, LG, LP, LN, V.ren, renH, hrest, numsF, epk, epochs, Mv.hx, idsOK, bs, wmask, LK.isW, LK.isA, LK.isP, num, X.ev, vbuild, vbuildOK, vcaps, vcapsOK, hget, hset, hdel, hhas, padd, V.ok, V.get, V.set, V.fget, V.fhas, V.fset, noR, Z.v, Z.sz, dropTo, seval, reduceCtorEq, forall_const])
            repeat (refine And.intro (by first | omega | exact True.intro | rfl) ?_)
            refine ⟨q + 1, by omega, by omega, by omega, ?_⟩
            refine Weak.fr [705] [] hx (by simp only [fr_length]) (by decide) ?_ ?_
            · simp only [insL, insV, Dg.at_zero, Sim_mach, solid_mach, LT, LP, SimL, SimA, Sim, SimH, frzA, frzX, hget, hhas, V.ok, V.get, V.fget, V.fhas, seval, reduceCtorEq, implies_true]
            · simp only [Dg.at_zero, Sim_mach, solid_mach, LT, LP, SimL, SimA, Sim, SimH, frzA, frzX, hget, hhas, V.ok, V.get, V.fget, V.fhas, seval, reduceCtorEq, implies_true]
              intro j hj
              by_cases hjq : j < q
              · rw [if_pos hjq]; exact (Sim_W _ _ _ _ _).mpr rfl
              · obtain rfl : j = q := by omega
                rw [if_neg hjq, if_pos (by omega), woq]; exact (Sim_W _ _ _ _ _).mpr rfl
  | true =>
    have wo0 := wo 0
    rw [he] at wo0
    simp only [if_true, if_false, Bool.false_eq_true] at wo0
    (simp (maxSteps := 4000000) only [tup2, he, w1, LG, LP, LN, V.ren, renH, hrest, numsF, epk, epochs, Mv.hx, idsOK, bs, wmask, LK.isW, LK.isA, LK.isP, num, X.ev, vbuild, vbuildOK, vcaps, vcapsOK, hget, hset, hdel, hhas, padd, V.ok, V.get, V.set, V.fget, V.fhas, V.fset, noR, Z.v, Z.sz, dropTo, seval, reduceCtorEq, forall_const])
    refine loop_rule (σ := Nat) (fun q => 1 ≤ q ∧ q ≤ min l.length 8192) (fun q => fr 55 [(8, insL l), (9, .int .i64 l.length), (10, .int .i64 q), (3, .sl 0 [] 0 q 1)])
      (fun q => [(0, .ar 1 q (fun j => W (wordOf (l.getD j default))))]) (fun _ => 1) (fun q => min l.length 8192 - q) 1 (by omega) ?_ ?_
    · refine Weak.fr [784] [] hx (by simp only [fr_length]) (by decide) ?_ ?_
      · simp only [insL, insV, Dg.at_zero, Sim_mach, solid_mach, LT, LP, SimL, SimA, Sim, SimH, frzA, frzX, hget, hhas, V.ok, V.get, V.fget, V.fhas, seval, reduceCtorEq, implies_true]
      · simp only [Dg.at_zero, Sim_mach, solid_mach, LT, LP, SimL, SimA, Sim, SimH, frzA, frzX, hget, hhas, V.ok, V.get, V.fget, V.fhas, seval, reduceCtorEq, implies_true]
        intro j hj
        obtain rfl : j = 0 := by omega
        rw [if_pos rfl, wo0]; exact (Sim_W _ _ _ _ _).mpr rfl
    · intro q ⟨hq1, hq⟩
      refine ex_sound 2000 _ _ _ _ ?_
      by_cases hqn : q = l.length
      · have d0 : ((q : Int) < (l.length : Int)) = False := eq_false (by omega)
        (simp (maxSteps := 4000000) only [insL, d0, LG, LP, LN, V.ren, renH, hrest, numsF, epk, epochs, Mv.hx, idsOK, bs, wmask, LK.isW, LK.isA, LK.isP, num, X.ev, vbuild, vbuildOK, vcaps, vcapsOK, hget, hset, hdel, hhas, padd, V.ok, V.get, V.set, V.fget, V.fhas, V.fset, noR, Z.v, Z.sz, dropTo, seval, reduceCtorEq, forall_const])
        have hm : min l.length 8192 = q := by omega
        rw [hm]
        refine RetS.mk hx [0] [] _ _ _ (by decide) (by (simp only [res, resPs, resP, LTP, resV, tup2, tup3, dg, LG, LP, LN, V.ren, renH, hrest, numsF, epk, epochs, Mv.hx, idsOK, bs, wmask, LK.isW, LK.isA, LK.isP, num, X.ev, vbuild, vbuildOK, vcaps, vcapsOK, hget, hset, hdel, hhas, padd, V.ok, V.get, V.set, V.fget, V.fhas, V.fset, noR, Z.v, Z.sz, dropTo, seval, reduceCtorEq, forall_const])) (by ((try simp only [res, resV, LTP, tup2, tup3, LG, LP, LN, V.ren, renH, hrest, numsF, epk, epochs, Mv.hx, idsOK, bs, wmask, LK.isW, LK.isA, LK.isP, num, X.ev, vbuild, vbuildOK, vcaps, vcapsOK, hget, hset, hdel, hhas, padd, V.ok, V.get, V.set, V.fget, V.fhas, V.fset, noR, Z.v, Z.sz, dropTo, seval, reduceCtorEq, forall_const, Dg.at_zero, Sim_mach, solid_mach, LT, LP, SimL, SimA, Sim, SimH, frzA, frzX, hget, hhas, V.ok, V.get, V.fget, V.fhas, seval, reduceCtorEq, implies_true, dg]); first | done | exact True.intro | (intros; rfl))) (by ((try simp only [Dg.at_zero, Sim_mach, solid_mach, LT, LP, SimL, SimA, Sim, SimH, frzA, frzX, hget, hhas, V.ok, V.get, V.fget, V.fhas, seval, reduceCtorEq, implies_true]); first | done | exact True.intro | (intros; rfl))) ⟨rfl, rfl, rfl⟩
      · have d0 : ((q : Int) < (l.length : Int)) = True := eq_true (by omega)
        have d1 : (q < l.length) = True := eq_true (by omega)
        by_cases hq8 : q = 8192
        · have d2 : ((8192 : Int) ≤ (q : Int)) = True := eq_true (by omega)
          (simp (maxSteps := 4000000) only [insL, insV, d0, d1, d2, LG, LP, LN, V.ren, renH, hrest, numsF, epk, epochs, Mv.hx, idsOK, bs, wmask, LK.isW, LK.isA, LK.isP, num, X.ev, vbuild, vbuildOK, vcaps, vcapsOK, hget, hset, hdel, hhas, padd, V.ok, V.get, V.set, V.fget, V.fhas, V.fset, noR, Z.v, Z.sz, dropTo, seval, reduceCtorEq, forall_const])
          repeat (refine And.intro (by first | omega | exact True.intro | rfl) ?_)
          have hm : min l.length 8192 = q := by omega
          rw [hm]
          refine RetS.mk hx [0] [] _ _ _ (by decide) (by (simp only [res, resPs, resP, LTP, resV, tup2, tup3, dg, LG, LP, LN, V.ren, renH, hrest, numsF, epk, epochs, Mv.hx, idsOK, bs, wmask, LK.isW, LK.isA, LK.isP, num, X.ev, vbuild, vbuildOK, vcaps, vcapsOK, hget, hset, hdel, hhas, padd, V.ok, V.get, V.set, V.fget, V.fhas, V.fset, noR, Z.v, Z.sz, dropTo, seval, reduceCtorEq, forall_const])) (by ((try simp only [res, resV, LTP, tup2, tup3, LG, LP, LN, V.ren, renH, hrest, numsF, epk, epochs, Mv.hx, idsOK, bs, wmask, LK.isW, LK.isA, LK.isP, num, X.ev, vbuild, vbuildOK, vcaps, vcapsOK, hget, hset, hdel, hhas, padd, V.ok, V.get, V.set, V.fget, V.fhas, V.fset, noR, Z.v, Z.sz, dropTo, seval, reduceCtorEq, forall_const, Dg.at_zero, Sim_mach, solid_mach, LT, LP, SimL, SimA, Sim, SimH, frzA, frzX, hget, hhas, V.ok, V.get, V.fget, V.fhas, seval, reduceCtorEq, implies_true, dg]); first | done | exact True.intro | (intros; rfl))) (by ((try simp only [Dg.at_zero, Sim_mach, solid_mach, LT, LP, SimL, SimA, Sim, SimH, frzA, frzX, hget, hhas, V.ok, V.get, V.fget, V.fhas, seval, reduceCtorEq, implies_true]); first | done | exact True.intro | (intros; rfl))) ⟨rfl, rfl, rfl⟩
        · have d2 : ((8192 : Int) ≤ (q : Int)) = False := eq_false (by omega)
          have w0 : IntKind.i64.wrap ((q : Int) + 1) = ((q + 1 : Nat) : Int) := by rw [wrap_i64 (by omega)]; omega
          have woq := wo q
          (simp (maxSteps := 4000000) only [insL, insV, m16_int, d0, d1, d2, LG, LP, LN, V.ren, renH, hrest, numsF, epk, epochs, Mv.hx, idsOK, bs, wmask, LK.isW, LK.isA, LK.isP, num, X.ev, vbuild, vbuildOK, vcaps, vcapsOK, hget, hset, hdel, hhas, padd, V.ok, V.get, V.set, V.fget, V.fhas, V.fset, noR, Z.v, Z.sz, dropTo, seval, reduceCtorEq, forall_const])
          repeat (refine And.intro (by first | omega | exact True.intro | rfl) ?_)
          refine call_pA (hc q) (by ((try simp only [Dg.at_zero, Sim_mach, solid_mach, LT, LP, SimL, SimA, Sim, SimH, frzA, frzX, hget, hhas, V.ok, V.get, V.fget, V.fhas, seval, reduceCtorEq, implies_true]); first | done | exact True.intro | rfl)) (by first | rfl | (simp only [LN, LP, V.ren, tup2, tup3])) (by simp only [tup2, tup3, laidH, refm, mach, NoIm, NoIm_W, NoIm_B, NoIm_dg', NoImL, ws, implies_true, and_self]) ?_
          cases hk : rcOk (l.getD q default).op (l.getD q default).n with
          | false =>
            rw [hk] at woq
            simp only [if_true, if_false, Bool.false_eq_true] at woq
            (simp (maxSteps := 4000000) only [tup2, hk, w0, LG, LP, LN, V.ren, renH, hrest, numsF, epk, epochs, Mv.hx, idsOK, bs, wmask, LK.isW, LK.isA, LK.isP, num, X.ev, vbuild, vbuildOK, vcaps, vcapsOK, hget, hset, hdel, hhas, padd, V.ok, V.get, V.set, V.fget, V.fhas, V.fset, noR, Z.v, Z.sz, dropTo, seval, reduceCtorEq, forall_const])
            repeat (refine And.intro (by first | omega | exact True.intro | rfl) ?_)
            refine ⟨q + 1, by omega, by omega, by omega, ?_⟩
            refine Weak.fr [753] [] hx (by simp only [fr_length]) (by decide) ?_ ?_
            · simp only [insL, insV, Dg.at_zero, Sim_mach, solid_mach, LT, LP, SimL, SimA, Sim, SimH, frzA, frzX, hget, hhas, V.ok, V.get, V.fget, V.fhas, seval, reduceCtorEq, implies_true]
            · simp only [Dg.at_zero, Sim_mach, solid_mach, LT, LP, SimL, SimA, Sim, SimH, frzA, frzX, hget, hhas, V.ok, V.get, V.fget, V.fhas, seval, reduceCtorEq, implies_true]
              intro j hj
              by_cases hjq : j < q
              · rw [if_pos hjq]; exact (Sim_W _ _ _ _ _).mpr rfl
              · obtain rfl : j = q := by omega
                rw [if_neg hjq, if_pos (by omega), woq]; exact (Sim_W _ _ _ _ _).mpr rfl
          | true =>
            rw [hk] at woq
            simp only [if_true, if_false, Bool.false_eq_true] at woq
            (simp (maxSteps := 4000000) only [tup2, hk, w0, LG, LP, LN, V.ren, renH, hrest, numsF, epk, epochs, Mv.hx, idsOK, bs, wmask, LK.isW, LK.isA, LK.isP, num, X.ev, vbuild, vbuildOK, vcaps, vcapsOK, hget, hset, hdel, hhas, padd, V.ok, V.get, V.set, V.fget, V.fhas, V.fset, noR, Z.v, Z.sz, dropTo, seval, reduceCtorEq, forall_const])
            repeat (refine And.intro (by first | omega | exact True.intro | rfl) ?_)
            refine ⟨q + 1, by omega, by omega, by omega, ?_⟩
            refine Weak.fr [705] [] hx (by simp only [fr_length]) (by decide) ?_ ?_
            · simp only [insL, insV, Dg.at_zero, Sim_mach, solid_mach, LT, LP, SimL, SimA, Sim, SimH, frzA, frzX, hget, hhas, V.ok, V.get, V.fget, V.fhas, seval, reduceCtorEq, implies_true]
            · simp only [Dg.at_zero, Sim_mach, solid_mach, LT, LP, SimL, SimA, Sim, SimH, frzA, frzX, hget, hhas, V.ok, V.get, V.fget, V.fhas, seval, reduceCtorEq, implies_true]
              intro j hj
              by_cases hjq : j < q
              · rw [if_pos hjq]; exact (Sim_W _ _ _ _ _).mpr rfl
              · obtain rfl : j = q := by omega
                rw [if_neg hjq, if_pos (by omega), woq]; exact (Sim_W _ _ _ _ _).mpr rfl
end Mv
