/- Words of instructions; loading. -/
import Derived.Test.YtfoaeafobdamcaaDoorMwVf
set_option linter.unusedSimpArgs false
set_option linter.unusedVariables false
namespace Mv
open Go
set_option maxRecDepth 20000
set_option maxHeartbeats 4000000
set_option linter.unusedSimpArgs false

structure In where
  op : Int
  d : Int
  a : Int
  b : Int
  c : Int
  n : Int
  raw : BitVec 64
instance : Inhabited In := ⟨⟨0, 0, 0, 0, 0, 0, 0#64⟩⟩
def insV (x : In) : V := .st 7 (.fcons 0 (.int .i64 x.op) (.fcons 1 (.int .i64 x.d) (.fcons 2 (.int .i64 x.a) (.fcons 3 (.int .i64 x.b) (.fcons 4 (.int .i64 x.c) (.fcons 5 (.int .i64 x.n) (.fcons 6 (W x.raw) .fnil)))))))
def m16 (d : Int) : Nat := (BitVec.ofInt 64 d % 16#64).toNat
theorem m16_lt (d : Int) : m16 d < 16 := by rw [m16, BitVec.toNat_umod]; exact Nat.mod_lt _ (by decide)
theorem m16_int (d : Int) : (BitVec.ofInt 64 d % 16#64).toInt = (m16 d : Int) := by
  have := m16_lt d
  rw [BitVec.toInt_eq_toNat_cond, if_pos (by unfold m16 at this; omega)]; rfl
def wordOf (x : In) : BitVec 64 := if rcOk x.op x.n then rcW x.op (m16 x.d) (m16 x.a) (m16 x.b) (m16 x.c) x.n else x.raw
def insL (l : List In) : V := .lst 7 l.length (fun j => insV (l.getD j default))

theorem runs_WordsNil {M : Seat} (ok : OkI M) (v : V) (hv : v = .nils ∨ v = insL []) : Runs M 75 [v] [] 0 (fun r H' k' => r = .nils ∧ H' = [] ∧ k' = 0) := by
  refine runs_fr ok.k75 rfl fun x hx => ?_
  rcases hv with rfl | rfl
  · refine ex_sound 2000 _ _ _ _ ?_; (simp (maxSteps := 4000000) only [f75, c75, LG, LP, LN, V.ren, renH, hrest, numsF, epk, epochs, Mv.hx, idsOK, bs, wmask, LK.isW, LK.isA, LK.isP, num, X.ev, vbuild, vbuildOK, vcaps, vcapsOK, hget, hset, hdel, hhas, padd, V.ok, V.get, V.set, V.fget, V.fhas, V.fset, noR, Z.v, Z.sz, dropTo, seval, reduceCtorEq, forall_const])
    refine loop_once ?_
    refine ex_sound 2000 _ _ _ _ ?_
    (simp (maxSteps := 4000000) only [LG, LP, LN, V.ren, renH, hrest, numsF, epk, epochs, Mv.hx, idsOK, bs, wmask, LK.isW, LK.isA, LK.isP, num, X.ev, vbuild, vbuildOK, vcaps, vcapsOK, hget, hset, hdel, hhas, padd, V.ok, V.get, V.set, V.fget, V.fhas, V.fset, noR, Z.v, Z.sz, dropTo, seval, reduceCtorEq, forall_const])
    refine RetS.mk hx [] [] _ _ _ (by decide) (by (simp only [res, resPs, resP, LTP, resV, tup2, tup3, dg, LG, LP, LN, V.ren, renH, hrest, numsF, epk, epochs, Mv.hx, idsOK, bs, wmask, LK.isW, LK.isA, LK.isP, num, X.ev, vbuild, vbuildOK, vcaps, vcapsOK, hget, hset, hdel, hhas, padd, V.ok, V.get, V.set, V.fget, V.fhas, V.fset, noR, Z.v, Z.sz, dropTo, seval, reduceCtorEq, forall_const])) (by ((try simp only [res, resV, LTP, tup2, tup3, LG, LP, LN, V.ren, renH, hrest, numsF, epk, epochs, Mv.hx, idsOK, bs, wmask, LK.isW, LK.isA, LK.isP, num, X.ev, vbuild, vbuildOK, vcaps, vcapsOK, hget, hset, hdel, hhas, padd, V.ok, V.get, V.set, V.fget, V.fhas, V.fset, noR, Z.v, Z.sz, dropTo, seval, reduceCtorEq, forall_const, Dg.at_zero, Sim_mach, solid_mach, LT, LP, SimL, SimA, Sim, SimH, frzA, frzX, hget, hhas, V.ok, V.get, V.fget, V.fhas, seval, reduceCtorEq, implies_true, dg]); first | done | exact True.intro | (intros; rfl))) (by ((try simp only [Dg.at_zero, Sim_mach, solid_mach, LT, LP, SimL, SimA, Sim, SimH, frzA, frzX, hget, hhas, V.ok, V.get, V.fget, V.fhas, seval, reduceCtorEq, implies_true]); first | done | exact True.intro | (intros; rfl))) ⟨rfl, rfl, rfl⟩
  · refine ex_sound 2000 _ _ _ _ ?_; (simp (maxSteps := 4000000) only [f75, c75, insL, List.length_nil, LG, LP, LN, V.ren, renH, hrest, numsF, epk, epochs, Mv.hx, idsOK, bs, wmask, LK.isW, LK.isA, LK.isP, num, X.ev, vbuild, vbuildOK, vcaps, vcapsOK, hget, hset, hdel, hhas, padd, V.ok, V.get, V.set, V.fget, V.fhas, V.fset, noR, Z.v, Z.sz, dropTo, seval, reduceCtorEq, forall_const])
    refine loop_once ?_
    refine ex_sound 2000 _ _ _ _ ?_
    (simp (maxSteps := 4000000) only [LG, LP, LN, V.ren, renH, hrest, numsF, epk, epochs, Mv.hx, idsOK, bs, wmask, LK.isW, LK.isA, LK.isP, num, X.ev, vbuild, vbuildOK, vcaps, vcapsOK, hget, hset, hdel, hhas, padd, V.ok, V.get, V.set, V.fget, V.fhas, V.fset, noR, Z.v, Z.sz, dropTo, seval, reduceCtorEq, forall_const])
    refine RetS.mk hx [] [] _ _ _ (by decide) (by (simp only [res, resPs, resP, LTP, resV, tup2, tup3, dg, LG, LP, LN, V.ren, renH, hrest, numsF, epk, epochs, Mv.hx, idsOK, bs, wmask, LK.isW, LK.isA, LK.isP, num, X.ev, vbuild, vbuildOK, vcaps, vcapsOK, hget, hset, hdel, hhas, padd, V.ok, V.get, V.set, V.fget, V.fhas, V.fset, noR, Z.v, Z.sz, dropTo, seval, reduceCtorEq, forall_const])) (by ((try simp only [res, resV, LTP, tup2, tup3, LG, LP, LN, V.ren, renH, hrest, numsF, epk, epochs, Mv.hx, idsOK, bs, wmask, LK.isW, LK.isA, LK.isP, num, X.ev, vbuild, vbuildOK, vcaps, vcapsOK, hget, hset, hdel, hhas, padd, V.ok, V.get, V.set, V.fget, V.fhas, V.fset, noR, Z.v, Z.sz, dropTo, seval, reduceCtorEq, forall_const, Dg.at_zero, Sim_mach, solid_mach, LT, LP, SimL, SimA, Sim, SimH, frzA, frzX, hget, hhas, V.ok, V.get, V.fget, V.fhas, seval, reduceCtorEq, implies_true, dg]); first | done | exact True.intro | (intros; rfl))) (by ((try simp only [Dg.at_zero, Sim_mach, solid_mach, LT, LP, SimL, SimA, Sim, SimH, frzA, frzX, hget, hhas, V.ok, V.get, V.fget, V.fhas, seval, reduceCtorEq, implies_true]); first | done | exact True.intro | (intros; rfl))) ⟨rfl, rfl, rfl⟩

theorem runs_Words {M : Seat} (ok : OkI M) (l : List In) (h0 : 0 < l.length) (hl : l.length < 9223372036854775808) :
    Runs M 75 [insL l] [] 0 (fun r H' k' => r = .sl 0 [] 0 (min l.length 8192) 1 ∧ H' = [(0, .ar 1 (min l.length 8192) (fun j => W (wordOf (l.getD j default))))] ∧ k' = 1) := by
  refine runs_fr ok.k75 rfl fun x hx => ?_
  refine ex_sound 2000 _ _ _ _ ?_; (simp (maxSteps := 4000000) only [f75, c75, insL, LG, LP, LN, V.ren, renH, hrest, numsF, epk, epochs, Mv.hx, idsOK, bs, wmask, LK.isW, LK.isA, LK.isP, num, X.ev, vbuild, vbuildOK, vcaps, vcapsOK, hget, hset, hdel, hhas, padd, V.ok, V.get, V.set, V.fget, V.fhas, V.fset, noR, Z.v, Z.sz, dropTo, seval, reduceCtorEq, forall_const])
  refine loop_once ?_
  refine ex_sound 2000 _ _ _ _ ?_
  have d0 : ((0 : Int) < (l.length : Int)) = True := eq_true (by omega)
  have d1 : (0 < l.length) = True := eq_true h0
  (simp (maxSteps := 4000000) only [d0, d1, insV, m16_int, LG, LP, LN, V.ren, renH, hrest, numsF, epk, epochs, Mv.hx, idsOK, bs, wmask, LK.isW, LK.isA, LK.isP, num, X.ev, vbuild, vbuildOK, vcaps, vcapsOK, hget, hset, hdel, hhas, padd, V.ok, V.get, V.set, V.fget, V.fhas, V.fset, noR, Z.v, Z.sz, dropTo, seval, reduceCtorEq, forall_const])
  have hc := fun q : Nat => runs_refCode ok (l.getD q default).op (m16 (l.getD q default).d) (m16 (l.getD q default).a) (m16 (l.getD q default).b) (m16 (l.getD q default).c) (l.getD q default).n (m16_lt _) (m16_lt _) (m16_lt _) (m16_lt _)
  refine call_pA (hc 0) (by ((try simp only [Dg.at_zero, Sim_mach, solid_mach, LT, LP, SimL, SimA, Sim, SimH, frzA, frzX, hget, hhas, V.ok, V.get, V.fget, V.fhas, seval, reduceCtorEq, implies_true]); first | done | exact True.intro | rfl)) (by first | rfl | (simp only [LN, LP, V.ren, tup2, tup3])) (by simp only [tup2, tup3, laidH, refm, mach, NoIm, NoIm_W, NoIm_B, NoIm_dg', NoImL, ws, implies_true, and_self]) ?_
  have wo : ∀ q : Nat, wordOf (l.getD q default) = if rcOk (l.getD q default).op (l.getD q default).n then rcW (l.getD q default).op (m16 (l.getD q default).d) (m16 (l.getD q default).a) (m16 (l.getD q default).b) (m16 (l.getD q default).c) (l.getD q default).n else (l.getD q default).raw := fun q => rfl
  have w1 : IntKind.i64.wrap 1 = 1 := rfl
  cases he : rcOk (l.getD 0 default).op (l.getD 0 default).n with
  | false =>
    have wo0 := wo 0
    rw [he] at wo0
    simp only [if_true, if_false, Bool.false_eq_true] at wo0
    (simp (maxSteps := 4000000) only [tup2, he, w1, LG, LP, LN, V.ren, renH, hrest, numsF, epk, epochs, Mv.hx, idsOK, bs, wmask, LK.isW, LK.isA, LK.isP, num, X.ev, vbuild, vbuildOK, vcaps, vcapsOK, hget, hset, hdel, hhas, padd, V.ok, V.get, V.set, V.fget, V.fhas, V.fset, noR, Z.v, Z.sz, dropTo, seval, reduceCtorEq, forall_const])
    refine loop_rule (σ := Nat) (fun q => 1 ≤ q ∧ q ≤ min l.length 8192) (fun q => fr 55 [(8, insL l), (9, .int .i64 l.length), (10, .int .i64 q), (3, .sl 0 [] 0 q 1)])
      (fun q => [(0, .ar 1 q (fun j => W (wordOf (l.getD j default))))]) (fun _ => 1) (fun q => min l.length 8192 - q) 1 (by omega) ?_ ?_
    · refine Weak.fr [832] [] hx (by simp only [fr_length]) (by decide) ?_ ?_
      · simp only [insL, insV, Dg.at_zero, Sim_mach, solid_mach, LT, LP, SimL, SimA, Sim, SimH, frzA, frzX, hget, hhas, V.ok, V.get, V.fget, V.fhas, seval, reduceCtorEq, implies_true]
      · simp only [Dg.at_zero, Sim_mach, solid_mach, LT, LP, SimL, SimA, Sim, SimH, frzA, frzX, hget, hhas, V.ok, V.get, V.fget, V.fhas, seval, reduceCtorEq, implies_true]
        intro j hj
        obtain rfl : j = 0 := by omega
        rw [if_pos rfl, wo0]; exact (Sim_W _ _ _ _ _).mpr rfl
    · intro q ⟨hq1, hq⟩
      refine ex_sound 2000 _ _ _ _ ?_
      by_cases hqn : q = l.length
      · have d0 : ((q : Int) < (l.length : Int)) = False := eq_false (by omega)
        (simp (maxSteps := 4000000) only [insL, d0, LG, LP, LN, V.ren, renH, hrest, numsF, epk, epochs, Mv.hx, idsOK, bs, wmask, LK.isW, LK.isA, LK.isP, num, X.ev, vbuild, vbuildOK, vcaps, vcapsOK, hget, hset, hdel, hhas, padd, V.ok, V.get, V.set, V.fget, V.fhas, V.fset, noR, Z.v, Z.sz, dropTo, seval, reduceCtorEq, forall_const])
        have hm : min l.length 8192 = q := by omega
        rw [hm]
        refine RetS.mk hx [0] [] _ _ _ (by decide) (by (simp only [res, resPs, resP, LTP, resV, tup2, tup3, dg, LG, LP, LN, V.ren, renH, hrest, numsF, epk, epochs, Mv.hx, idsOK, bs, wmask, LK.isW, LK.isA, LK.isP, num, X.ev, vbuild, vbuildOK, vcaps, vcapsOK, hget, hset, hdel, hhas, padd, V.ok, V.get, V.set, V.fget, V.fhas, V.fset, noR, Z.v, Z.sz, dropTo, seval, reduceCtorEq, forall_const])) (by ((try simp only [res, resV, LTP, tup2, tup3, LG, LP, LN, V.ren, renH, hrest, numsF, epk, epochs, Mv.hx, idsOK, bs, wmask, LK.isW, LK.isA, LK.isP, num, X.ev, vbuild, vbuildOK, vcaps, vcapsOK, hget, hset, hdel, hhas, padd, V.ok, V.get, V.set, V.fget, V.fhas, V.fset, noR, Z.v, Z.sz, dropTo, seval, reduceCtorEq, forall_const, Dg.at_zero, Sim_mach, solid_mach, LT, LP, SimL, SimA, Sim, SimH, frzA, frzX, hget, hhas, V.ok, V.get, V.fget, V.fhas, seval, reduceCtorEq, implies_true, dg]); first | done | exact True.intro | (intros; rfl))) (by ((try simp only [Dg.at_zero, Sim_mach, solid_mach, LT, LP, SimL, SimA, Sim, SimH, frzA, frzX, hget, hhas, V.ok, V.get, V.fget, V.fhas, seval, reduceCtorEq, implies_true]); first | done | exact True.intro | (intros; rfl))) ⟨rfl, rfl, rfl⟩
      · have d0 : ((q : Int) < (l.length : Int)) = True := eq_true (by omega)
        have d1 : (q < l.length) = True := eq_true (by omega)
        by_cases hq8 : q = 8192
        · have d2 : ((8192 : Int) ≤ (q : Int)) = True := eq_true (by omega)
          (simp (maxSteps := 4000000) only [insL, insV, d0, d1, d2, LG, LP, LN, V.ren, renH, hrest, numsF, epk, epochs, Mv.hx, idsOK, bs, wmask, LK.isW, LK.isA, LK.isP, num, X.ev, vbuild, vbuildOK, vcaps, vcapsOK, hget, hset, hdel, hhas, padd, V.ok, V.get, V.set, V.fget, V.fhas, V.fset, noR, Z.v, Z.sz, dropTo, seval, reduceCtorEq, forall_const])
          repeat (refine And.intro (by first | omega | exact True.intro | rfl) ?_)
          have hm : min l.length 8192 = q := by omega
          rw [hm]
          refine RetS.mk hx [0] [] _ _ _ (by decide) (by (simp only [res, resPs, resP, LTP, resV, tup2, tup3, dg, LG, LP, LN, V.ren, renH, hrest, numsF, epk, epochs, Mv.hx, idsOK, bs, wmask, LK.isW, LK.isA, LK.isP, num, X.ev, vbuild, vbuildOK, vcaps, vcapsOK, hget, hset, hdel, hhas, padd, V.ok, V.get, V.set, V.fget, V.fhas, V.fset, noR, Z.v, Z.sz, dropTo, seval, reduceCtorEq, forall_const])) (by ((try simp only [res, resV, LTP, tup2, tup3, LG, LP, LN, V.ren, renH, hrest, numsF, epk, epochs, Mv.hx, idsOK, bs, wmask, LK.isW, LK.isA, LK.isP, num, X.ev, vbuild, vbuildOK, vcaps, vcapsOK, hget, hset, hdel, hhas, padd, V.ok, V.get, V.set, V.fget, V.fhas, V.fset, noR, Z.v, Z.sz, dropTo, seval, reduceCtorEq, forall_const, Dg.at_zero, Sim_mach, solid_mach, LT, LP, SimL, SimA, Sim, SimH, frzA, frzX, hget, hhas, V.ok, V.get, V.fget, V.fhas, seval, reduceCtorEq, implies_true, dg]); first | done | exact True.intro | (intros; rfl))) (by ((try simp only [Dg.at_zero, Sim_mach, solid_mach, LT, LP, SimL, SimA, Sim, SimH, frzA, frzX, hget, hhas, V.ok, V.get, V.fget, V.fhas, seval, reduceCtorEq, implies_true]); first | done | exact True.intro | (intros; rfl))) ⟨rfl, rfl, rfl⟩
        · have d2 : ((8192 : Int) ≤ (q : Int)) = False := eq_false (by omega)
          have w0 : IntKind.i64.wrap ((q : Int) + 1) = ((q + 1 : Nat) : Int) := by rw [wrap_i64 (by omega)]; omega
          have woq := wo q
          (simp (maxSteps := 4000000) only [insL, insV, m16_int, d0, d1, d2, LG, LP, LN, V.ren, renH, hrest, numsF, epk, epochs, Mv.hx, idsOK, bs, wmask, LK.isW, LK.isA, LK.isP, num, X.ev, vbuild, vbuildOK, vcaps, vcapsOK, hget, hset, hdel, hhas, padd, V.ok, V.get, V.set, V.fget, V.fhas, V.fset, noR, Z.v, Z.sz, dropTo, seval, reduceCtorEq, forall_const])
          repeat (refine And.intro (by first | omega | exact True.intro | rfl) ?_)
          refine call_pA (hc q) (by ((try simp only [Dg.at_zero, Sim_mach, solid_mach, LT, LP, SimL, SimA, Sim, SimH, frzA, frzX, hget, hhas, V.ok, V.get, V.fget, V.fhas, seval, reduceCtorEq, implies_true]); first | done | exact True.intro | rfl)) (by first | rfl | (simp only [LN, LP, V.ren, tup2, tup3])) (by simp only [tup2, tup3, laidH, refm, mach, NoIm, NoIm_W, NoIm_B, NoIm_dg', NoImL, ws, implies_true, and_self]) ?_
          cases hk : rcOk (l.getD q default).op (l.getD q default).n with
          | false =>
            rw [hk] at woq
            simp only [if_true, if_false, Bool.false_eq_true] at woq
            (simp (maxSteps := 4000000) only [tup2, hk, w0, LG, LP, LN, V.ren, renH, hrest, numsF, epk, epochs, Mv.hx, idsOK, bs, wmask, LK.isW, LK.isA, LK.isP, num, X.ev, vbuild, vbuildOK, vcaps, vcapsOK, hget, hset, hdel, hhas, padd, V.ok, V.get, V.set, V.fget, V.fhas, V.fset, noR, Z.v, Z.sz, dropTo, seval, reduceCtorEq, forall_const])
            repeat (refine And.intro (by first | omega | exact True.intro | rfl) ?_)
            refine ⟨q + 1, by omega, by omega, by omega, ?_⟩
            refine Weak.fr [753] [] hx (by simp only [fr_length]) (by decide) ?_ ?_
            · simp only [insL, insV, Dg.at_zero, Sim_mach, solid_mach, LT, LP, SimL, SimA, Sim, SimH, frzA, frzX, hget, hhas, V.ok, V.get, V.fget, V.fhas, seval, reduceCtorEq, implies_true]
            · simp only [Dg.at_zero, Sim_mach, solid_mach, LT, LP, SimL, SimA, Sim, SimH, frzA, frzX, hget, hhas, V.ok, V.get, V.fget, V.fhas, seval, reduceCtorEq, implies_true]
              intro j hj
              by_cases hjq : j < q
              · rw [if_pos hjq]; exact (Sim_W _ _ _ _ _).mpr rfl
              · obtain rfl : j = q := by omega
                rw [if_neg hjq, if_pos (by omega), woq]; exact (Sim_W _ _ _ _ _).mpr rfl
          | true =>
            rw [hk] at woq
            simp only [if_true, if_false, Bool.false_eq_true] at woq
            (simp (maxSteps := 4000000) only [tup2, hk, w0, LG, LP, LN, V.ren, renH, hrest, numsF, epk, epochs, Mv.hx, idsOK, bs, wmask, LK.isW, LK.isA, LK.isP, num, X.ev, vbuild, vbuildOK, vcaps, vcapsOK, hget, hset, hdel, hhas, padd, V.ok, V.get, V.set, V.fget, V.fhas, V.fset, noR, Z.v, Z.sz, dropTo, seval, reduceCtorEq, forall_const])
            repeat (refine And.intro (by first | omega | exact True.intro | rfl) ?_)
            refine ⟨q + 1, by omega, by omega, by omega, ?_⟩
            refine Weak.fr [705] [] hx (by simp only [fr_length]) (by decide) ?_ ?_
            · simp only [insL, insV, Dg.at_zero, Sim_mach, solid_mach, LT, LP, SimL, SimA, Sim, SimH, frzA, frzX, hget, hhas, V.ok, V.get, V.fget, V.fhas, seval, reduceCtorEq, implies_true]
            · simp only [Dg.at_zero, Sim_mach, solid_mach, LT, LP, SimL, SimA, Sim, SimH, frzA, frzX, hget, hhas, V.ok, V.get, V.fget, V.fhas, seval, reduceCtorEq, implies_true]
              intro j hj
              by_cases hjq : j < q
              · rw [if_pos hjq]; exact (Sim_W _ _ _ _ _).mpr rfl
              · obtain rfl : j = q := by omega
                rw [if_neg hjq, if_pos (by omega), woq]; exact (Sim_W _ _ _ _ _).mpr rfl
  | true =>
    have wo0 := wo 0
    rw [he] at wo0
    simp only [if_true, if_false, Bool.false_eq_true] at wo0
    (simp (maxSteps := 4000000) only [tup2, he, w1, LG, LP, LN, V.ren, renH, hrest, numsF, epk, epochs, Mv.hx, idsOK, bs, wmask, LK.isW, LK.isA, LK.isP, num, X.ev, vbuild, vbuildOK, vcaps, vcapsOK, hget, hset, hdel, hhas, padd, V.ok, V.get, V.set, V.fget, V.fhas, V.fset, noR, Z.v, Z.sz, dropTo, seval, reduceCtorEq, forall_const])
    refine loop_rule (σ := Nat) (fun q => 1 ≤ q ∧ q ≤ min l.length 8192) (fun q => fr 55 [(8, insL l), (9, .int .i64 l.length), (10, .int .i64 q), (3, .sl 0 [] 0 q 1)])
      (fun q => [(0, .ar 1 q (fun j => W (wordOf (l.getD j default))))]) (fun _ => 1) (fun q => min l.length 8192 - q) 1 (by omega) ?_ ?_
    · refine Weak.fr [784] [] hx (by simp only [fr_length]) (by decide) ?_ ?_
      · simp only [insL, insV, Dg.at_zero, Sim_mach, solid_mach, LT, LP, SimL, SimA, Sim, SimH, frzA, frzX, hget, hhas, V.ok, V.get, V.fget, V.fhas, seval, reduceCtorEq, implies_true]
      · simp only [Dg.at_zero, Sim_mach, solid_mach, LT, LP, SimL, SimA, Sim, SimH, frzA, frzX, hget, hhas, V.ok, V.get, V.fget, V.fhas, seval, reduceCtorEq, implies_true]
        intro j hj
        obtain rfl : j = 0 := by omega
        rw [if_pos rfl, wo0]; exact (Sim_W _ _ _ _ _).mpr rfl
    · intro q ⟨hq1, hq⟩
      refine ex_sound 2000 _ _ _ _ ?_
      by_cases hqn : q = l.length
      · have d0 : ((q : Int) < (l.length : Int)) = False := eq_false (by omega)
        (simp (maxSteps := 4000000) only [insL, d0, LG, LP, LN, V.ren, renH, hrest, numsF, epk, epochs, Mv.hx, idsOK, bs, wmask, LK.isW, LK.isA, LK.isP, num, X.ev, vbuild, vbuildOK, vcaps, vcapsOK, hget, hset, hdel, hhas, padd, V.ok, V.get, V.set, V.fget, V.fhas, V.fset, noR, Z.v, Z.sz, dropTo, seval, reduceCtorEq, forall_const])
        have hm : min l.length 8192 = q := by omega
        rw [hm]
        refine RetS.mk hx [0] [] _ _ _ (by decide) (by (simp only [res, resPs, resP, LTP, resV, tup2, tup3, dg, LG, LP, LN, V.ren, renH, hrest, numsF, epk, epochs, Mv.hx, idsOK, bs, wmask, LK.isW, LK.isA, LK.isP, num, X.ev, vbuild, vbuildOK, vcaps, vcapsOK, hget, hset, hdel, hhas, padd, V.ok, V.get, V.set, V.fget, V.fhas, V.fset, noR, Z.v, Z.sz, dropTo, seval, reduceCtorEq, forall_const])) (by ((try simp only [res, resV, LTP, tup2, tup3, LG, LP, LN, V.ren, renH, hrest, numsF, epk, epochs, Mv.hx, idsOK, bs, wmask, LK.isW, LK.isA, LK.isP, num, X.ev, vbuild, vbuildOK, vcaps, vcapsOK, hget, hset, hdel, hhas, padd, V.ok, V.get, V.set, V.fget, V.fhas, V.fset, noR, Z.v, Z.sz, dropTo, seval, reduceCtorEq, forall_const, Dg.at_zero, Sim_mach, solid_mach, LT, LP, SimL, SimA, Sim, SimH, frzA, frzX, hget, hhas, V.ok, V.get, V.fget, V.fhas, seval, reduceCtorEq, implies_true, dg]); first | done | exact True.intro | (intros; rfl))) (by ((try simp only [Dg.at_zero, Sim_mach, solid_mach, LT, LP, SimL, SimA, Sim, SimH, frzA, frzX, hget, hhas, V.ok, V.get, V.fget, V.fhas, seval, reduceCtorEq, implies_true]); first | done | exact True.intro | (intros; rfl))) ⟨rfl, rfl, rfl⟩
      · have d0 : ((q : Int) < (l.length : Int)) = True := eq_true (by omega)
        have d1 : (q < l.length) = True := eq_true (by omega)
        by_cases hq8 : q = 8192
        · have d2 : ((8192 : Int) ≤ (q : Int)) = True := eq_true (by omega)
          (simp (maxSteps := 4000000) only [insL, insV, d0, d1, d2, LG, LP, LN, V.ren, renH, hrest, numsF, epk, epochs, Mv.hx, idsOK, bs, wmask, LK.isW, LK.isA, LK.isP, num, X.ev, vbuild, vbuildOK, vcaps, vcapsOK, hget, hset, hdel, hhas, padd, V.ok, V.get, V.set, V.fget, V.fhas, V.fset, noR, Z.v, Z.sz, dropTo, seval, reduceCtorEq, forall_const])
          repeat (refine And.intro (by first | omega | exact True.intro | rfl) ?_)
          have hm : min l.length 8192 = q := by omega
          rw [hm]
          refine RetS.mk hx [0] [] _ _ _ (by decide) (by (simp only [res, resPs, resP, LTP, resV, tup2, tup3, dg, LG, LP, LN, V.ren, renH, hrest, numsF, epk, epochs, Mv.hx, idsOK, bs, wmask, LK.isW, LK.isA, LK.isP, num, X.ev, vbuild, vbuildOK, vcaps, vcapsOK, hget, hset, hdel, hhas, padd, V.ok, V.get, V.set, V.fget, V.fhas, V.fset, noR, Z.v, Z.sz, dropTo, seval, reduceCtorEq, forall_const])) (by ((try simp only [res, resV, LTP, tup2, tup3, LG, LP, LN, V.ren, renH, hrest, numsF, epk, epochs, Mv.hx, idsOK, bs, wmask, LK.isW, LK.isA, LK.isP, num, X.ev, vbuild, vbuildOK, vcaps, vcapsOK, hget, hset, hdel, hhas, padd, V.ok, V.get, V.set, V.fget, V.fhas, V.fset, noR, Z.v, Z.sz, dropTo, seval, reduceCtorEq, forall_const, Dg.at_zero, Sim_mach, solid_mach, LT, LP, SimL, SimA, Sim, SimH, frzA, frzX, hget, hhas, V.ok, V.get, V.fget, V.fhas, seval, reduceCtorEq, implies_true, dg]); first | done | exact True.intro | (intros; rfl))) (by ((try simp only [Dg.at_zero, Sim_mach, solid_mach, LT, LP, SimL, SimA, Sim, SimH, frzA, frzX, hget, hhas, V.ok, V.get, V.fget, V.fhas, seval, reduceCtorEq, implies_true]); first | done | exact True.intro | (intros; rfl))) ⟨rfl, rfl, rfl⟩
        · have d2 : ((8192 : Int) ≤ (q : Int)) = False := eq_false (by omega)
          have w0 : IntKind.i64.wrap ((q : Int) + 1) = ((q + 1 : Nat) : Int) := by rw [wrap_i64 (by omega)]; omega
          have woq := wo q
          (simp (maxSteps := 4000000) only [insL, insV, m16_int, d0, d1, d2, LG, LP, LN, V.ren, renH, hrest, numsF, epk, epochs, Mv.hx, idsOK, bs, wmask, LK.isW, LK.isA, LK.isP, num, X.ev, vbuild, vbuildOK, vcaps, vcapsOK, hget, hset, hdel, hhas, padd, V.ok, V.get, V.set, V.fget, V.fhas, V.fset, noR, Z.v, Z.sz, dropTo, seval, reduceCtorEq, forall_const])
          repeat (refine And.intro (by first | omega | exact True.intro | rfl) ?_)
          refine call_pA (hc q) (by ((try simp only [Dg.at_zero, Sim_mach, solid_mach, LT, LP, SimL, SimA, Sim, SimH, frzA, frzX, hget, hhas, V.ok, V.get, V.fget, V.fhas, seval, reduceCtorEq, implies_true]); first | done | exact True.intro | rfl)) (by first | rfl | (simp only [LN, LP, V.ren, tup2, tup3])) (by simp only [tup2, tup3, laidH, refm, mach, NoIm, NoIm_W, NoIm_B, NoIm_dg', NoImL, ws, implies_true, and_self]) ?_
          cases hk : rcOk (l.getD q default).op (l.getD q default).n with
          | false =>
            rw [hk] at woq
            simp only [if_true, if_false, Bool.false_eq_true] at woq
            (simp (maxSteps := 4000000) only [tup2, hk, w0, LG, LP, LN, V.ren, renH, hrest, numsF, epk, epochs, Mv.hx, idsOK, bs, wmask, LK.isW, LK.isA, LK.isP, num, X.ev, vbuild, vbuildOK, vcaps, vcapsOK, hget, hset, hdel, hhas, padd, V.ok, V.get, V.set, V.fget, V.fhas, V.fset, noR, Z.v, Z.sz, dropTo, seval, reduceCtorEq, forall_const])
            repeat (refine And.intro (by first | omega | exact True.intro | rfl) ?_)
            refine ⟨q + 1, by omega, by omega, by omega, ?_⟩
            refine Weak.fr [753] [] hx (by simp only [fr_length]) (by decide) ?_ ?_
            · simp only [insL, insV, Dg.at_zero, Sim_mach, solid_mach, LT, LP, SimL, SimA, Sim, SimH, frzA, frzX, hget, hhas, V.ok, V.get, V.fget, V.fhas, seval, reduceCtorEq, implies_true]
            · simp only [Dg.at_zero, Sim_mach, solid_mach, LT, LP, SimL, SimA, Sim, SimH, frzA, frzX, hget, hhas, V.ok, V.get, V.fget, V.fhas, seval, reduceCtorEq, implies_true]
              intro j hj
              by_cases hjq : j < q
              · rw [if_pos hjq]; exact (Sim_W _ _ _ _ _).mpr rfl
              · obtain rfl : j = q := by omega
                rw [if_neg hjq, if_pos (by omega), woq]; exact (Sim_W _ _ _ _ _).mpr rfl
          | true =>
            rw [hk] at woq
            simp only [if_true, if_false, Bool.false_eq_true] at woq
            (simp (maxSteps := 4000000) only [tup2, hk, w0, LG, LP, LN, V.ren, renH, hrest, numsF, epk, epochs, Mv.hx, idsOK, bs, wmask, LK.isW, LK.isA, LK.isP, num, X.ev, vbuild, vbuildOK, vcaps, vcapsOK, hget, hset, hdel, hhas, padd, V.ok, V.get, V.set, V.fget, V.fhas, V.fset, noR, Z.v, Z.sz, dropTo, seval, reduceCtorEq, forall_const])
            repeat (refine And.intro (by first | omega | exact True.intro | rfl) ?_)
            refine ⟨q + 1, by omega, by omega, by omega, ?_⟩
            refine Weak.fr [705] [] hx (by simp only [fr_length]) (by decide) ?_ ?_
            · simp only [insL, insV, Dg.at_zero, Sim_mach, solid_mach, LT, LP, SimL, SimA, Sim, SimH, frzA, frzX, hget, hhas, V.ok, V.get, V.fget, V.fhas, seval, reduceCtorEq, implies_true]
            · simp only [Dg.at_zero, Sim_mach, solid_mach, LT, LP, SimL, SimA, Sim, SimH, frzA, frzX, hget, hhas, V.ok, V.get, V.fget, V.fhas, seval, reduceCtorEq, implies_true]
              intro j hj
              by_cases hjq : j < q
              · rw [if_pos hjq]; exact (Sim_W _ _ _ _ _).mpr rfl
              · obtain rfl : j = q := by omega
                rw [if_neg hjq, if_pos (by omega), woq]; exact (Sim_W _ _ _ _ _).mpr rfl
end Mv
namespace Mv
open Go
set_option maxRecDepth 20000
set_option maxHeartbeats 4000000
set_option linter.unusedSimpArgs false

/-- Memory with words at its front. -/
def memW (n : Nat) (u : Nat → BitVec 64) (j : Nat) : BitVec 64 := if j < n then u j else 0#64

theorem runs_LoadW {M : Seat} (okA : OkA M) (n : Nat) (hn : n ≤ 8192) (u : Nat → BitVec 64) : Runs M 74 [.lst 1 n (fun j => W (u j))] [] 0 (fun r H' k' => r = tup2 (.ptr 0 []) .nili ∧ H' = [(0, mach (memW n u) (fun _ => 0#64) 0#64 false 0#64)] ∧ k' = 1) := by
  refine runs_fr okA.k74 rfl fun x hx => ?_
  have e0 : ((8192 : Int) < (n : Int)) = False := eq_false (by omega)
  have m1 : min n 8192 = n := by omega
  have m2 : ∀ i : Nat, (0 ≤ i) = True := fun i => eq_true (Nat.zero_le i)
  refine ex_sound 2000 _ _ _ _ ?_; (simp (maxSteps := 4000000) only [f74, c74, e0, m1, m2, LG, LP, LN, V.ren, renH, hrest, numsF, epk, epochs, Mv.hx, idsOK, bs, wmask, LK.isW, LK.isA, LK.isP, num, X.ev, vbuild, vbuildOK, vcaps, vcapsOK, hget, hset, hdel, hhas, padd, V.ok, V.get, V.set, V.fget, V.fhas, V.fset, noR, Z.v, Z.sz, dropTo, seval, reduceCtorEq, forall_const])
  refine RetS.mk hx [96] [] _ _ _ (by decide) (by (simp only [res, resPs, resP, LTP, resV, tup2, tup3, dg, mach, memW, ite_W, LG, LP, LN, V.ren, renH, hrest, numsF, epk, epochs, Mv.hx, idsOK, bs, wmask, LK.isW, LK.isA, LK.isP, num, X.ev, vbuild, vbuildOK, vcaps, vcapsOK, hget, hset, hdel, hhas, padd, V.ok, V.get, V.set, V.fget, V.fhas, V.fset, noR, Z.v, Z.sz, dropTo, seval, reduceCtorEq, forall_const])) (by ((try simp only [res, resV, LTP, tup2, tup3, mach, memW, ite_W, LG, LP, LN, V.ren, renH, hrest, numsF, epk, epochs, Mv.hx, idsOK, bs, wmask, LK.isW, LK.isA, LK.isP, num, X.ev, vbuild, vbuildOK, vcaps, vcapsOK, hget, hset, hdel, hhas, padd, V.ok, V.get, V.set, V.fget, V.fhas, V.fset, noR, Z.v, Z.sz, dropTo, seval, reduceCtorEq, forall_const, Dg.at_zero, Sim_mach, solid_mach, LT, LP, SimL, SimA, Sim, SimH, frzA, frzX, hget, hhas, V.ok, V.get, V.fget, V.fhas, seval, reduceCtorEq, implies_true, dg]); first | done | exact True.intro | (intros; rfl))) (by ((try simp only [mach, memW, ite_W, Dg.at_zero, Sim_mach, solid_mach, LT, LP, SimL, SimA, Sim, SimH, frzA, frzX, hget, hhas, V.ok, V.get, V.fget, V.fhas, seval, reduceCtorEq, implies_true]); first | done | exact True.intro | (intros; rfl))) ⟨rfl, rfl, rfl⟩

theorem runs_loadedOf {M : Seat} (okA : OkA M) (ok : OkI M) (l : List In) (h0 : 0 < l.length) (hl : l.length ≤ 8192) :
    Runs M 67 [insL l] [] 0 (fun r H' k' => r = .ptr 0 [] ∧ H' = [(0, mach (memW l.length (fun j => wordOf (l.getD j default))) (fun _ => 0#64) 0#64 false 0#64)] ∧ k' = 1) := by
  refine runs_fr ok.k67 rfl fun x hx => ?_
  have m1 : min l.length 8192 = l.length := by omega
  have hW := runs_Words ok l h0 (by omega)
  rw [m1] at hW
  refine ex_sound 2000 _ _ _ _ ?_; (simp (maxSteps := 4000000) only [f67, c67, LG, LP, LN, V.ren, renH, hrest, numsF, epk, epochs, Mv.hx, idsOK, bs, wmask, LK.isW, LK.isA, LK.isP, num, X.ev, vbuild, vbuildOK, vcaps, vcapsOK, hget, hset, hdel, hhas, padd, V.ok, V.get, V.set, V.fget, V.fhas, V.fset, noR, Z.v, Z.sz, dropTo, seval, reduceCtorEq, forall_const])
  refine call_fA (hW) (by decide) (by ((try simp only [insL, insV, Dg.at_zero, Sim_mach, solid_mach, LT, LP, SimL, SimA, Sim, SimH, frzA, frzX, hget, hhas, V.ok, V.get, V.fget, V.fhas, seval, reduceCtorEq, implies_true]); first | done | exact True.intro | rfl)) (by simp only [insL, insV, tup2, tup3, laidH, refm, mach, NoIm, NoIm_W, NoIm_B, NoIm_dg', NoImL, ws, implies_true, and_self]) (by simp only [insL, insV, tup2, tup3, laidH, refm, mach, NoIm, NoIm_W, NoIm_B, NoIm_dg', NoImL, ws, implies_true, and_self]) ?_
  (simp (maxSteps := 4000000) only [LG, LP, LN, V.ren, renH, hrest, numsF, epk, epochs, Mv.hx, idsOK, bs, wmask, LK.isW, LK.isA, LK.isP, num, X.ev, vbuild, vbuildOK, vcaps, vcapsOK, hget, hset, hdel, hhas, padd, V.ok, V.get, V.set, V.fget, V.fhas, V.fset, noR, Z.v, Z.sz, dropTo, seval, reduceCtorEq, forall_const])
  refine call_fA (runs_LoadW okA l.length hl (fun j => wordOf (l.getD j default))) (by decide) (by ((try simp only [Dg.at_zero, Sim_mach, solid_mach, LT, LP, SimL, SimA, Sim, SimH, frzA, frzX, hget, hhas, V.ok, V.get, V.fget, V.fhas, seval, reduceCtorEq, implies_true]); first | done | exact True.intro | rfl)) (by simp only [tup2, tup3, laidH, refm, mach, NoIm, NoIm_W, NoIm_B, NoIm_dg', NoImL, ws, implies_true, and_self]) (by simp only [tup2, tup3, laidH, refm, mach, NoIm, NoIm_W, NoIm_B, NoIm_dg', NoImL, ws, implies_true, and_self]) ?_
  (simp (maxSteps := 4000000) only [tup2, ren_mach, LG, LP, LN, V.ren, renH, hrest, numsF, epk, epochs, Mv.hx, idsOK, bs, wmask, LK.isW, LK.isA, LK.isP, num, X.ev, vbuild, vbuildOK, vcaps, vcapsOK, hget, hset, hdel, hhas, padd, V.ok, V.get, V.set, V.fget, V.fhas, V.fset, noR, Z.v, Z.sz, dropTo, seval, reduceCtorEq, forall_const])
  refine RetS.mk hx [48] [] _ _ _ (by decide) (by (simp only [res, resPs, resP, LTP, resV, tup2, tup3, dg, mach, LG, LP, LN, V.ren, renH, hrest, numsF, epk, epochs, Mv.hx, idsOK, bs, wmask, LK.isW, LK.isA, LK.isP, num, X.ev, vbuild, vbuildOK, vcaps, vcapsOK, hget, hset, hdel, hhas, padd, V.ok, V.get, V.set, V.fget, V.fhas, V.fset, noR, Z.v, Z.sz, dropTo, seval, reduceCtorEq, forall_const])) (by ((try simp only [res, resV, LTP, tup2, tup3, mach, LG, LP, LN, V.ren, renH, hrest, numsF, epk, epochs, Mv.hx, idsOK, bs, wmask, LK.isW, LK.isA, LK.isP, num, X.ev, vbuild, vbuildOK, vcaps, vcapsOK, hget, hset, hdel, hhas, padd, V.ok, V.get, V.set, V.fget, V.fhas, V.fset, noR, Z.v, Z.sz, dropTo, seval, reduceCtorEq, forall_const, Dg.at_zero, Sim_mach, solid_mach, LT, LP, SimL, SimA, Sim, SimH, frzA, frzX, hget, hhas, V.ok, V.get, V.fget, V.fhas, seval, reduceCtorEq, implies_true, dg]); first | done | exact True.intro | (intros; rfl))) (by ((try simp only [mach, Dg.at_zero, Sim_mach, solid_mach, LT, LP, SimL, SimA, Sim, SimH, frzA, frzX, hget, hhas, V.ok, V.get, V.fget, V.fhas, seval, reduceCtorEq, implies_true]); first | done | exact True.intro | (intros; rfl))) ⟨rfl, rfl, rfl⟩

structure OkW (M : Seat) : Prop extends OkI M where
  k215 : chkF M 215 f215 = true
theorem runs_Apply1 {M : Seat} (ok : OkW M) (a b c : BitVec 64) : Runs M 215 [.int .i64 1, W a, W b, W c] [] 0 (fun r H' k' => r = tup2 (W (a + b)) .nili ∧ H' = [] ∧ k' = 0) := by
  refine runs_fr ok.k215 rfl fun x hx => ?_
  refine ex_sound 2000 _ _ _ _ ?_; (simp (maxSteps := 4000000) only [f215, c215, LG, LP, LN, V.ren, renH, hrest, numsF, epk, epochs, Mv.hx, idsOK, bs, wmask, LK.isW, LK.isA, LK.isP, num, X.ev, vbuild, vbuildOK, vcaps, vcapsOK, hget, hset, hdel, hhas, padd, V.ok, V.get, V.set, V.fget, V.fhas, V.fset, noR, Z.v, Z.sz, dropTo, seval, reduceCtorEq, forall_const])
  refine RetS.mk hx [] [] _ _ _ (by decide) (by (simp only [res, resPs, resP, LTP, resV, tup2, tup3, dg, LG, LP, LN, V.ren, renH, hrest, numsF, epk, epochs, Mv.hx, idsOK, bs, wmask, LK.isW, LK.isA, LK.isP, num, X.ev, vbuild, vbuildOK, vcaps, vcapsOK, hget, hset, hdel, hhas, padd, V.ok, V.get, V.set, V.fget, V.fhas, V.fset, noR, Z.v, Z.sz, dropTo, seval, reduceCtorEq, forall_const])) (by ((try simp only [res, resV, LTP, tup2, tup3, LG, LP, LN, V.ren, renH, hrest, numsF, epk, epochs, Mv.hx, idsOK, bs, wmask, LK.isW, LK.isA, LK.isP, num, X.ev, vbuild, vbuildOK, vcaps, vcapsOK, hget, hset, hdel, hhas, padd, V.ok, V.get, V.set, V.fget, V.fhas, V.fset, noR, Z.v, Z.sz, dropTo, seval, reduceCtorEq, forall_const, Dg.at_zero, Sim_mach, solid_mach, LT, LP, SimL, SimA, Sim, SimH, frzA, frzX, hget, hhas, V.ok, V.get, V.fget, V.fhas, seval, reduceCtorEq, implies_true, dg]); first | done | exact True.intro | (intros; rfl))) (by ((try simp only [Dg.at_zero, Sim_mach, solid_mach, LT, LP, SimL, SimA, Sim, SimH, frzA, frzX, hget, hhas, V.ok, V.get, V.fget, V.fhas, seval, reduceCtorEq, implies_true]); first | done | exact True.intro | (intros; rfl))) ⟨rfl, rfl, rfl⟩

theorem runs_StepAdd {M : Seat} (ok : OkW M) (f g : Nat → BitVec 64) (pc xt : BitVec 64) (hpc : ¬ 8192#64 ≤ pc) (w : BitVec 64) (hw : f pc.toNat = w) (hop : pOp w = 1) (h2 : w >>> 32 &&& 255#64 = 0#64) :
    Runs M 70 [.ptr 0 [], .ptr 1 []] [(0, mach f g pc false xt)] 2 (fun r H' k' => r = .nili ∧ H' = [(0, mach f (upd g (pF w 52) (g (pF w 48) + g (pF w 44))) (pc + 1#64) false xt)] ∧ k' = 2) := by
  refine runs_fr ok.k70 rfl fun x hx => ?_
  have hp : pc.toNat < 8192 := by rw [BitVec.le_def] at hpc; simpa using hpc
  have a1 := pF_lt w 52
  have a2 := pF_lt w 48
  have a3 := pF_lt w 44
  have a4 := pF_lt w 40
  refine ex_sound 2000 _ _ _ _ ?_; (simp (maxSteps := 4000000) only [f70, c70, mach, hpc, hw, LG, LP, LN, V.ren, renH, hrest, numsF, epk, epochs, Mv.hx, idsOK, bs, wmask, LK.isW, LK.isA, LK.isP, num, X.ev, vbuild, vbuildOK, vcaps, vcapsOK, hget, hset, hdel, hhas, padd, V.ok, V.get, V.set, V.fget, V.fhas, V.fset, noR, Z.v, Z.sz, dropTo, seval, reduceCtorEq, forall_const])
  repeat (refine And.intro (by first | omega | exact True.intro | rfl) ?_)
  refine opd_pA (runs_Parts ok.toOkV w (by omega) h2) (by ((try simp only [partsR, Dg.at_zero, Sim_mach, solid_mach, LT, LP, SimL, SimA, Sim, SimH, frzA, frzX, hget, hhas, V.ok, V.get, V.fget, V.fhas, seval, reduceCtorEq, implies_true]); first | done | exact True.intro | rfl)) (by first | rfl | (simp only [LN, LP, V.ren, tup2, tup3])) (by simp only [partsR, tup2, tup3, laidH, refm, mach, NoIm, NoIm_W, NoIm_B, NoIm_dg', NoImL, ws, implies_true, and_self]) ?_
  (simp (maxSteps := 4000000) only [partsR, hop, LG, LP, LN, V.ren, renH, hrest, numsF, epk, epochs, Mv.hx, idsOK, bs, wmask, LK.isW, LK.isA, LK.isP, num, X.ev, vbuild, vbuildOK, vcaps, vcapsOK, hget, hset, hdel, hhas, padd, V.ok, V.get, V.set, V.fget, V.fhas, V.fset, noR, Z.v, Z.sz, dropTo, seval, reduceCtorEq, forall_const])
  repeat (refine And.intro (by first | omega | exact True.intro | rfl) ?_)
  refine opd_pA (runs_Apply1 ok (g (pF w 48)) (g (pF w 44)) (g (pF w 40))) (by ((try simp only [Dg.at_zero, Sim_mach, solid_mach, LT, LP, SimL, SimA, Sim, SimH, frzA, frzX, hget, hhas, V.ok, V.get, V.fget, V.fhas, seval, reduceCtorEq, implies_true]); first | done | exact True.intro | rfl)) (by first | rfl | (simp only [LN, LP, V.ren, tup2, tup3])) (by simp only [tup2, tup3, laidH, refm, mach, NoIm, NoIm_W, NoIm_B, NoIm_dg', NoImL, ws, implies_true, and_self]) ?_
  (simp (maxSteps := 4000000) only [tup2, LG, LP, LN, V.ren, renH, hrest, numsF, epk, epochs, Mv.hx, idsOK, bs, wmask, LK.isW, LK.isA, LK.isP, num, X.ev, vbuild, vbuildOK, vcaps, vcapsOK, hget, hset, hdel, hhas, padd, V.ok, V.get, V.set, V.fget, V.fhas, V.fset, noR, Z.v, Z.sz, dropTo, seval, reduceCtorEq, forall_const])
  repeat (refine And.intro (by first | omega | exact True.intro | rfl) ?_)
  refine RetS.mk hx [0, 1] [] _ _ _ (by decide) (by (simp only [res, resPs, resP, LTP, resV, tup2, tup3, dg, mach, upd, ite_W, LG, LP, LN, V.ren, renH, hrest, numsF, epk, epochs, Mv.hx, idsOK, bs, wmask, LK.isW, LK.isA, LK.isP, num, X.ev, vbuild, vbuildOK, vcaps, vcapsOK, hget, hset, hdel, hhas, padd, V.ok, V.get, V.set, V.fget, V.fhas, V.fset, noR, Z.v, Z.sz, dropTo, seval, reduceCtorEq, forall_const])) (by ((try simp only [res, resV, LTP, tup2, tup3, mach, upd, ite_W, LG, LP, LN, V.ren, renH, hrest, numsF, epk, epochs, Mv.hx, idsOK, bs, wmask, LK.isW, LK.isA, LK.isP, num, X.ev, vbuild, vbuildOK, vcaps, vcapsOK, hget, hset, hdel, hhas, padd, V.ok, V.get, V.set, V.fget, V.fhas, V.fset, noR, Z.v, Z.sz, dropTo, seval, reduceCtorEq, forall_const, Dg.at_zero, Sim_mach, solid_mach, LT, LP, SimL, SimA, Sim, SimH, frzA, frzX, hget, hhas, V.ok, V.get, V.fget, V.fhas, seval, reduceCtorEq, implies_true, dg]); first | done | exact True.intro | (intros; rfl))) (by ((try simp only [mach, upd, ite_W, Dg.at_zero, Sim_mach, solid_mach, LT, LP, SimL, SimA, Sim, SimH, frzA, frzX, hget, hhas, V.ok, V.get, V.fget, V.fhas, seval, reduceCtorEq, implies_true]); first | done | exact True.intro | (intros; rfl))) ⟨rfl, rfl, rfl⟩
end Mv
