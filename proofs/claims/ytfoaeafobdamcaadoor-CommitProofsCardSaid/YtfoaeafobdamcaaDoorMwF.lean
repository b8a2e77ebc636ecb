/- The document's Path and Fold. -/
import Derived.Test.YtfoaeafobdamcaaDoorMwE
import Derived.Test.YtfoaeafobdamcaaDoorMwU
import Derived.Test.YtfoaeafobdamcaaDoorEe
set_option linter.unusedSimpArgs false
set_option linter.unusedVariables false
namespace Mv
open Go
set_option maxRecDepth 20000
set_option maxHeartbeats 4000000
set_option linter.unusedSimpArgs false

theorem vlen_lvR {l : List Dg} {v : V} (h : lvR l v) (H : Hp) : vlen 0 v H = ⟨True, .int .i64 l.length, H⟩ := by
  rcases h with rfl | ⟨rfl, rfl⟩ <;> rfl

theorem runs_refPath {M : Seat} (ok : OkB M) (l : List Dg) (lv : V) (hlv : lvR l lv) (hl : l.length ≤ 8192) (i : Nat) (hi : i < 8192) :
    Runs M 64 [.int .i64 13, lv, .int .i64 i] [] 0 (fun r H' k' => r = tup2 (.sl 0 [] 0 13 32) (.int .i64 0) ∧ H' = [(0, .ar 32 13 (fun h => dg (pathN l i h)))] ∧ k' = 1) := by
  refine runs_fr ok.k64 rfl fun x hx => ?_
  have hS : ∀ H m z, SimV H m z lv lv := fun H m z => SimV_lvR hlv
  have hS' : ∀ H m z, Sim H m z lv lv := fun H m z => by have := SimV_lvR (H := H) (m := m) (z := z) hlv; rcases hlv with rfl | ⟨rfl, rfl⟩ <;> exact this
  have h0 : ((i : Int) < 0) = False := eq_false (by omega)
  refine ex_sound 2000 _ _ _ _ ?_
  (simp (maxSteps := 4000000) only [f64, c64, vlen_lvR hlv, LG, LP, LN, V.ren, renH, hrest, numsF, epk, epochs, Mv.hx, idsOK, bs, wmask, LK.isW, LK.isA, LK.isP, num, X.ev, vbuild, vbuildOK, vcaps, vcapsOK, hget, hset, hdel, hhas, padd, V.ok, V.get, V.set, V.fget, V.fhas, V.fset, noR, Z.v, Z.sz, dropTo, seval, reduceCtorEq, forall_const])
  refine call_pA (runs_Wrong ok 13 l.length (by omega) hl) (by ((try simp only [hS, Dg.at_zero, Sim_mach, solid_mach, LT, LP, SimL, SimA, Sim, SimH, frzA, frzX, hget, hhas, V.ok, V.get, V.fget, V.fhas, seval, reduceCtorEq, implies_true]); first | done | exact True.intro | rfl)) (by first | rfl | (simp only [LN, LP, V.ren, tup2, tup3])) (by simp only [hS, tup2, tup3, laidH, refm, mach, NoIm, NoIm_W, NoIm_B, NoIm_dg', NoImL, errV, implies_true, and_self]) ?_
  (simp (maxSteps := 4000000) only [h0, LG, LP, LN, V.ren, renH, hrest, numsF, epk, epochs, Mv.hx, idsOK, bs, wmask, LK.isW, LK.isA, LK.isP, num, X.ev, vbuild, vbuildOK, vcaps, vcapsOK, hget, hset, hdel, hhas, padd, V.ok, V.get, V.set, V.fget, V.fhas, V.fset, noR, Z.v, Z.sz, dropTo, seval, reduceCtorEq, forall_const])
  have h1 : IntKind.i64.wrap (1 * 2 ^ min 13 64) = 8192 := by decide
  have h2 : ((8192 : Int) ≤ (i : Int)) = False := eq_false (by omega)
  (simp (maxSteps := 4000000) only [h1, h2, LG, LP, LN, V.ren, renH, hrest, numsF, epk, epochs, Mv.hx, idsOK, bs, wmask, LK.isW, LK.isA, LK.isP, num, X.ev, vbuild, vbuildOK, vcaps, vcapsOK, hget, hset, hdel, hhas, padd, V.ok, V.get, V.set, V.fget, V.fhas, V.fset, noR, Z.v, Z.sz, dropTo, seval, reduceCtorEq, forall_const])
  refine call_fA (runs_Zeros ok) (by decide) (by ((try simp only [Dg.at_zero, Sim_mach, solid_mach, LT, LP, SimL, SimA, Sim, SimH, frzA, frzX, hget, hhas, V.ok, V.get, V.fget, V.fhas, seval, reduceCtorEq, implies_true]); first | done | exact True.intro | rfl)) (by simp only [tup2, tup3, laidH, refm, mach, NoIm, NoIm_W, NoIm_B, NoIm_dg', NoImL, errV, implies_true, and_self]) (by simp only [tup2, tup3, laidH, refm, mach, NoIm, NoIm_W, NoIm_B, NoIm_dg', NoImL, errV, implies_true, and_self]) ?_
  (simp (maxSteps := 4000000) only [LG, LP, LN, V.ren, renH, hrest, numsF, epk, epochs, Mv.hx, idsOK, bs, wmask, LK.isW, LK.isA, LK.isP, num, X.ev, vbuild, vbuildOK, vcaps, vcapsOK, hget, hset, hdel, hhas, padd, V.ok, V.get, V.set, V.fget, V.fhas, V.fset, noR, Z.v, Z.sz, dropTo, seval, reduceCtorEq, forall_const])
  have hq : ∀ h, h < 13 → (i / 2 ^ h) ^^^ 1 < 2 * 2 ^ (12 - h) := by
    intro h hh
    refine xor1_lt ?_
    have e : 2 * 2 ^ (12 - h) * 2 ^ h = 8192 := by rw [Nat.mul_assoc, ← Nat.pow_add, show 12 - h + h = 12 by omega]
    have : i / 2 ^ h * 2 ^ h ≤ i := Nat.div_mul_le_self _ _
    exact Nat.lt_of_mul_lt_mul_right (a := 2 ^ h) (by omega)
  have hq2 : ∀ h, h < 13 → ((i / 2 ^ h) ^^^ 1) * 2 ^ h + 2 ^ h ≤ 8192 := by
    intro h hh
    have h1 := hq h hh
    have e : 2 * 2 ^ (12 - h) * 2 ^ h = 8192 := by rw [Nat.mul_assoc, ← Nat.pow_add, show 12 - h + h = 12 by omega]
    have h3 : ((i / 2 ^ h ^^^ 1) + 1) * 2 ^ h ≤ 2 * 2 ^ (12 - h) * 2 ^ h := Nat.mul_le_mul_right _ h1
    rw [Nat.add_mul] at h3
    omega
  have hid : ∀ h, i / 2 ^ h < 9223372036854775808 := fun h => Nat.lt_of_le_of_lt (Nat.div_le_self _ _) (by omega)
  have hU := fun h (hh : h < 13) => runs_Under ok l lv hlv (by omega) h ((i / 2 ^ h) ^^^ 1) (by omega) (by have := hq2 h hh; omega)
  refine loop_once ?_
  refine ex_sound 2000 _ _ _ _ ?_
  have f0 : (i : Int).fdiv (2 ^ min 0 64) = ((i / 2 ^ 0 : Nat) : Int) := fdiv_pow i 0
  have f1 : (i : Int).fdiv (2 ^ 0) = ((i / 2 ^ 0 : Nat) : Int) := fdiv_pow i 0
  (simp (maxSteps := 4000000) only [xor1I (hid 0), f0, f1, LG, LP, LN, V.ren, renH, hrest, numsF, epk, epochs, Mv.hx, idsOK, bs, wmask, LK.isW, LK.isA, LK.isP, num, X.ev, vbuild, vbuildOK, vcaps, vcapsOK, hget, hset, hdel, hhas, padd, V.ok, V.get, V.set, V.fget, V.fhas, V.fset, noR, Z.v, Z.sz, dropTo, seval, reduceCtorEq, forall_const])
  have g0 : IntKind.i64.wrap (((i / 1 ^^^ 1 : Nat) : Int) * 2 ^ min 0 64) = (((i / 2 ^ 0 ^^^ 1) * 2 ^ 0 : Nat) : Int) := by
    have := hq2 0 (by omega)
    rw [show min 0 64 = 0 from rfl, Int.pow_zero, Int.mul_one, Nat.pow_zero, Nat.mul_one, wrap_i64 (by rw [Nat.pow_zero] at this; omega)]
  rw [g0]
  refine call_pA (hU 0 (by omega)) (by ((try simp only [hS, Dg.at_zero, Sim_mach, solid_mach, LT, LP, SimL, SimA, Sim, SimH, frzA, frzX, hget, hhas, V.ok, V.get, V.fget, V.fhas, seval, reduceCtorEq, implies_true]); first | done | exact True.intro | rfl)) (by first | rfl | (simp only [LN, LP, V.ren, tup2, tup3])) (by simp only [hS, tup2, tup3, laidH, refm, mach, NoIm, NoIm_W, NoIm_B, NoIm_dg', NoImL, errV, implies_true, and_self]) ?_
  (simp (maxSteps := 4000000) only [LG, LP, LN, V.ren, renH, hrest, numsF, epk, epochs, Mv.hx, idsOK, bs, wmask, LK.isW, LK.isA, LK.isP, num, X.ev, vbuild, vbuildOK, vcaps, vcapsOK, hget, hset, hdel, hhas, padd, V.ok, V.get, V.set, V.fget, V.fhas, V.fset, noR, Z.v, Z.sz, dropTo, seval, reduceCtorEq, forall_const])
  refine loop_rule (σ := Nat) (fun h => 1 ≤ h ∧ h ≤ 13) (fun h => fr 52 [(0, .int .i64 13), (1, lv), (2, .int .i64 i), (9, .sl 0 [] 0 17 32), (10, .sl 1 [] 0 h 32), (11, .int .i64 h)])
    (fun h => [(0, .ar 32 17 (fun j => dg (nought j))), (1, .ar 32 h (fun q => dg (pathN l i q)))]) (fun _ => 2) (fun h => 13 - h) 1 (by omega) ?_ ?_
  · refine Weak.fr [288, 656] [] hx (by simp only [fr_length]) (by decide) ?_ ?_
    · simp only [hS, Dg.at_zero, Sim_mach, solid_mach, LT, LP, SimL, SimA, Sim, SimH, frzA, frzX, hget, hhas, V.ok, V.get, V.fget, V.fhas, seval, reduceCtorEq, implies_true]
      rfl
    · simp only [Dg.at_zero, Sim_mach, solid_mach, LT, LP, SimL, SimA, Sim, SimH, frzA, frzX, hget, hhas, V.ok, V.get, V.fget, V.fhas, seval, reduceCtorEq, implies_true]
      intro j hj
      have : j = 0 := by omega
      subst this
      rw [if_pos rfl]; exact (Sim_dg _ _ _ _ _).mpr rfl
  · intro h ⟨h1, h2⟩
    refine ex_sound 2000 _ _ _ _ ?_
    by_cases h13 : h = 13
    · subst h13
      (simp (maxSteps := 4000000) only [LG, LP, LN, V.ren, renH, hrest, numsF, epk, epochs, Mv.hx, idsOK, bs, wmask, LK.isW, LK.isA, LK.isP, num, X.ev, vbuild, vbuildOK, vcaps, vcapsOK, hget, hset, hdel, hhas, padd, V.ok, V.get, V.set, V.fget, V.fhas, V.fset, noR, Z.v, Z.sz, dropTo, seval, reduceCtorEq, forall_const])
      refine RetS.mk hx [1] [] (tup2 (.sl 0 [] 0 13 32) (.int .i64 0)) [(0, .ar 32 13 (fun h => dg (pathN l i h)))] 1 (by decide) (by (simp only [res, resPs, resP, tupP, resV, tup2, tup3, dg, LG, LP, LN, V.ren, renH, hrest, numsF, epk, epochs, Mv.hx, idsOK, bs, wmask, LK.isW, LK.isA, LK.isP, num, X.ev, vbuild, vbuildOK, vcaps, vcapsOK, hget, hset, hdel, hhas, padd, V.ok, V.get, V.set, V.fget, V.fhas, V.fset, noR, Z.v, Z.sz, dropTo, seval, reduceCtorEq, forall_const])) (by ((try simp only [res, resV, tupV, tup2, tup3, LG, LP, LN, V.ren, renH, hrest, numsF, epk, epochs, Mv.hx, idsOK, bs, wmask, LK.isW, LK.isA, LK.isP, num, X.ev, vbuild, vbuildOK, vcaps, vcapsOK, hget, hset, hdel, hhas, padd, V.ok, V.get, V.set, V.fget, V.fhas, V.fset, noR, Z.v, Z.sz, dropTo, seval, reduceCtorEq, forall_const, Dg.at_zero, Sim_mach, solid_mach, LT, LP, SimL, SimA, Sim, SimH, frzA, frzX, hget, hhas, V.ok, V.get, V.fget, V.fhas, seval, reduceCtorEq, implies_true, dg]); first | done | exact True.intro | (intros; rfl))) ?_ ⟨rfl, rfl, rfl⟩
      simp only [Dg.at_zero, Sim_mach, solid_mach, LT, LP, SimL, SimA, Sim, SimH, frzA, frzX, hget, hhas, V.ok, V.get, V.fget, V.fhas, seval, reduceCtorEq, implies_true]
    · have d0 : ((h : Int) < 13) = True := eq_true (by omega)
      have f0 : (i : Int).fdiv (2 ^ min h 64) = ((i / 2 ^ h : Nat) : Int) := by rw [Nat.min_eq_left (by omega)]; exact fdiv_pow i h
      have f1 : (BitVec.ofInt 64 (h : Int)).toNat = h := by rw [ofInt_nat' _ (by omega) (by omega)]; rfl
      have f2 : IntKind.i64.wrap (((i / 2 ^ h ^^^ 1 : Nat) : Int) * 2 ^ min h 64) = (((i / 2 ^ h ^^^ 1) * 2 ^ h : Nat) : Int) := by
        have := hq2 h (by omega)
        rw [Nat.min_eq_left (by omega), pow2_n, ← Int.natCast_mul]; exact wrNat _ (Nat.lt_of_le_of_lt (Nat.le_trans (Nat.le_add_right _ _) this) (by omega))
      (simp (maxSteps := 4000000) only [xor1I (hid h), f0, f1, f2, d0, LG, LP, LN, V.ren, renH, hrest, numsF, epk, epochs, Mv.hx, idsOK, bs, wmask, LK.isW, LK.isA, LK.isP, num, X.ev, vbuild, vbuildOK, vcaps, vcapsOK, hget, hset, hdel, hhas, padd, V.ok, V.get, V.set, V.fget, V.fhas, V.fset, noR, Z.v, Z.sz, dropTo, seval, reduceCtorEq, forall_const])
      refine call_pA (hU h (by omega)) (by ((try simp only [hS, Dg.at_zero, Sim_mach, solid_mach, LT, LP, SimL, SimA, Sim, SimH, frzA, frzX, hget, hhas, V.ok, V.get, V.fget, V.fhas, seval, reduceCtorEq, implies_true]); first | done | exact True.intro | rfl)) (by first | rfl | (simp only [LN, LP, V.ren, tup2, tup3])) (by simp only [hS, tup2, tup3, laidH, refm, mach, NoIm, NoIm_W, NoIm_B, NoIm_dg', NoImL, errV, implies_true, and_self]) ?_
      have w0 : IntKind.i64.wrap ((h : Int) + 1) = ((h + 1 : Nat) : Int) := by rw [wrap_i64 (by omega)]; omega
      (simp (maxSteps := 4000000) only [w0, LG, LP, LN, V.ren, renH, hrest, numsF, epk, epochs, Mv.hx, idsOK, bs, wmask, LK.isW, LK.isA, LK.isP, num, X.ev, vbuild, vbuildOK, vcaps, vcapsOK, hget, hset, hdel, hhas, padd, V.ok, V.get, V.set, V.fget, V.fhas, V.fset, noR, Z.v, Z.sz, dropTo, seval, reduceCtorEq, forall_const])
      refine ⟨by omega, h + 1, by omega, by omega, by omega, ?_⟩
      refine Weak.fr [0, 306] [] hx (by simp only [fr_length]) (by decide) ?_ ?_
      · simp only [hS, Dg.at_zero, Sim_mach, solid_mach, LT, LP, SimL, SimA, Sim, SimH, frzA, frzX, hget, hhas, V.ok, V.get, V.fget, V.fhas, seval, reduceCtorEq, implies_true]
      · simp only [Dg.at_zero, Sim_mach, solid_mach, LT, LP, SimL, SimA, Sim, SimH, frzA, frzX, hget, hhas, V.ok, V.get, V.fget, V.fhas, seval, reduceCtorEq, implies_true]
        intro j hj
        by_cases hjh : j < h
        · rw [if_pos hjh]; exact (Sim_dg _ _ _ _ _).mpr rfl
        · have : j = h := by omega
          subst this
          rw [if_neg hjh, if_pos (by omega)]; exact (Sim_dg _ _ _ _ _).mpr rfl

theorem runs_refFold {M : Seat} (ok : OkB M) (i : Nat) (v : Dg) (p : List Dg) (hp : p.length ≤ 16) (hi : i < 2 ^ p.length) :
    Runs M 65 [.int .i64 i, dg v, row p] [] 0 (fun r H' k' => r = tup2 (dg (foldN i v p p.length)) (.int .i64 0) ∧ H' = [] ∧ k' = 0) := by
  refine runs_fr ok.k65 rfl fun x hx => ?_
  have h16 : (2 : Nat) ^ p.length ≤ 2 ^ 16 := Nat.pow_le_pow_right (by omega) hp
  have hi' : i < 65536 := by omega
  have e0 : ((16 : Int) < (p.length : Int)) = False := eq_false (by omega)
  have e1 : ((i : Int) < 0) = False := eq_false (by omega)
  have e2 : (BitVec.ofInt 64 (p.length : Int)).toNat = p.length := by rw [ofInt_nat' _ (by omega) (by omega)]; rfl
  have e3 : IntKind.i64.wrap (1 * 2 ^ min p.length 64) = ((2 ^ p.length : Nat) : Int) := by
    rw [Nat.min_eq_left (by omega), Int.one_mul, pow2_n, wrap_i64 (by omega)]
  have e4 : (((2 ^ p.length : Nat) : Int) ≤ (i : Int)) = False := eq_false (by omega)
  refine ex_sound 2000 _ _ _ _ ?_
  (simp (maxSteps := 4000000) only [f65, c65, row, e0, e1, e2, e3, e4, LG, LP, LN, V.ren, renH, hrest, numsF, epk, epochs, Mv.hx, idsOK, bs, wmask, LK.isW, LK.isA, LK.isP, num, X.ev, vbuild, vbuildOK, vcaps, vcapsOK, hget, hset, hdel, hhas, padd, V.ok, V.get, V.set, V.fget, V.fhas, V.fset, noR, Z.v, Z.sz, dropTo, seval, reduceCtorEq, forall_const])
  refine loop_rule (σ := Nat) (fun q => q ≤ p.length) (fun q => fr 50 [(0, .int .i64 i), (2, .lst 32 p.length (dgs p)), (4, .ptr 0 []), (6, .ptr 1 []), (8, .int .i64 q)])
    (fun q => [(0, dg (foldN i v p q)), (1, dg Dg.zero)]) (fun _ => 2) (fun q => p.length - q) 0 (by omega) ?_ ?_
  · refine Weak.fr [0, 16] [] hx (by simp only [fr_length]) (by decide) ?_ ?_
    · simp only [Dg.at_zero, Sim_mach, solid_mach, LT, LP, SimL, SimA, Sim, SimH, frzA, frzX, hget, hhas, V.ok, V.get, V.fget, V.fhas, seval, reduceCtorEq, implies_true]
    · simp only [foldN, dg, Dg.at_zero, Sim_mach, solid_mach, LT, LP, SimL, SimA, Sim, SimH, frzA, frzX, hget, hhas, V.ok, V.get, V.fget, V.fhas, seval, reduceCtorEq, implies_true]
  · intro q hq
    refine ex_sound 2000 _ _ _ _ ?_
    by_cases h13 : q = p.length
    · subst h13
      have d0 : ((p.length : Int) < (p.length : Int)) = False := eq_false (by omega)
      (simp (maxSteps := 4000000) only [d0, LG, LP, LN, V.ren, renH, hrest, numsF, epk, epochs, Mv.hx, idsOK, bs, wmask, LK.isW, LK.isA, LK.isP, num, X.ev, vbuild, vbuildOK, vcaps, vcapsOK, hget, hset, hdel, hhas, padd, V.ok, V.get, V.set, V.fget, V.fhas, V.fset, noR, Z.v, Z.sz, dropTo, seval, reduceCtorEq, forall_const])
      refine RetS.mk hx [] [] (tup2 (dg (foldN i v p p.length)) (.int .i64 0)) [] 0 (by decide) (by (simp only [res, resPs, resP, tupP, resV, tup2, tup3, dg, LG, LP, LN, V.ren, renH, hrest, numsF, epk, epochs, Mv.hx, idsOK, bs, wmask, LK.isW, LK.isA, LK.isP, num, X.ev, vbuild, vbuildOK, vcaps, vcapsOK, hget, hset, hdel, hhas, padd, V.ok, V.get, V.set, V.fget, V.fhas, V.fset, noR, Z.v, Z.sz, dropTo, seval, reduceCtorEq, forall_const])) (by ((try simp only [res, resV, tupV, tup2, tup3, LG, LP, LN, V.ren, renH, hrest, numsF, epk, epochs, Mv.hx, idsOK, bs, wmask, LK.isW, LK.isA, LK.isP, num, X.ev, vbuild, vbuildOK, vcaps, vcapsOK, hget, hset, hdel, hhas, padd, V.ok, V.get, V.set, V.fget, V.fhas, V.fset, noR, Z.v, Z.sz, dropTo, seval, reduceCtorEq, forall_const, Dg.at_zero, Sim_mach, solid_mach, LT, LP, SimL, SimA, Sim, SimH, frzA, frzX, hget, hhas, V.ok, V.get, V.fget, V.fhas, seval, reduceCtorEq, implies_true, dg]); first | done | exact True.intro | (intros; rfl))) trivial ⟨rfl, rfl, rfl⟩
    · have d0 : ((q : Int) < (p.length : Int)) = True := eq_true (by omega)
      have f0 : (i : Int).fdiv (2 ^ min q 64) = ((i / 2 ^ q : Nat) : Int) := by rw [Nat.min_eq_left (by omega)]; exact fdiv_pow i q
      have f1 : (BitVec.ofInt 64 (q : Int)).toNat = q := by rw [ofInt_nat' _ (by omega) (by omega)]; rfl
      have f2 : ((i / 2 ^ q : Nat) : Int).tmod 2 = ((i / 2 ^ q % 2 : Nat) : Int) := tmod_n _ 2
      have w0 : IntKind.i64.wrap ((q : Int) + 1) = ((q + 1 : Nat) : Int) := by rw [wrap_i64 (by omega)]; omega
      by_cases h2 : i / 2 ^ q % 2 = 0
      · have d1 : (((i / 2 ^ q % 2 : Nat) : Int) = 0) = True := eq_true (by omega)
        (simp (maxSteps := 4000000) only [d0, f0, f1, f2, d1, LG, LP, LN, V.ren, renH, hrest, numsF, epk, epochs, Mv.hx, idsOK, bs, wmask, LK.isW, LK.isA, LK.isP, num, X.ev, vbuild, vbuildOK, vcaps, vcapsOK, hget, hset, hdel, hhas, padd, V.ok, V.get, V.set, V.fget, V.fhas, V.fset, noR, Z.v, Z.sz, dropTo, seval, reduceCtorEq, forall_const])
        repeat (refine And.intro (by first | omega | exact True.intro | rfl) ?_)
        refine opd_pA (runs_refPair ok (foldN i v p q) (p.getD q Dg.zero)) (by ((try simp only [Dg.at_zero, Sim_mach, solid_mach, LT, LP, SimL, SimA, Sim, SimH, frzA, frzX, hget, hhas, V.ok, V.get, V.fget, V.fhas, seval, reduceCtorEq, implies_true]); first | done | exact True.intro | rfl)) (by first | rfl | (simp only [LN, LP, V.ren, tup2, tup3])) (by simp only [tup2, tup3, laidH, refm, mach, NoIm, NoIm_W, NoIm_B, NoIm_dg', NoImL, errV, implies_true, and_self]) ?_
        (simp (maxSteps := 4000000) only [w0, LG, LP, LN, V.ren, renH, hrest, numsF, epk, epochs, Mv.hx, idsOK, bs, wmask, LK.isW, LK.isA, LK.isP, num, X.ev, vbuild, vbuildOK, vcaps, vcapsOK, hget, hset, hdel, hhas, padd, V.ok, V.get, V.set, V.fget, V.fhas, V.fset, noR, Z.v, Z.sz, dropTo, seval, reduceCtorEq, forall_const])
        repeat (refine And.intro (by first | omega | exact True.intro | rfl) ?_)
        refine ⟨q + 1, by omega, by omega, ?_⟩
        refine Weak.fr [0, 1] [] hx (by simp only [fr_length]) (by decide) ?_ ?_
        · simp only [Dg.at_zero, Sim_mach, solid_mach, LT, LP, SimL, SimA, Sim, SimH, frzA, frzX, hget, hhas, V.ok, V.get, V.fget, V.fhas, seval, reduceCtorEq, implies_true]
        · simp only [Dg.at_zero, Sim_mach, solid_mach, LT, LP, SimL, SimA, Sim, SimH, frzA, frzX, hget, hhas, V.ok, V.get, V.fget, V.fhas, seval, reduceCtorEq, implies_true]
          rw [foldN, if_pos h2]
      · have d1 : (((i / 2 ^ q % 2 : Nat) : Int) = 0) = False := eq_false (by omega)
        (simp (maxSteps := 4000000) only [d0, f0, f1, f2, d1, LG, LP, LN, V.ren, renH, hrest, numsF, epk, epochs, Mv.hx, idsOK, bs, wmask, LK.isW, LK.isA, LK.isP, num, X.ev, vbuild, vbuildOK, vcaps, vcapsOK, hget, hset, hdel, hhas, padd, V.ok, V.get, V.set, V.fget, V.fhas, V.fset, noR, Z.v, Z.sz, dropTo, seval, reduceCtorEq, forall_const])
        repeat (refine And.intro (by first | omega | exact True.intro | rfl) ?_)
        refine opd_pA (runs_refPair ok (p.getD q Dg.zero) (foldN i v p q)) (by ((try simp only [Dg.at_zero, Sim_mach, solid_mach, LT, LP, SimL, SimA, Sim, SimH, frzA, frzX, hget, hhas, V.ok, V.get, V.fget, V.fhas, seval, reduceCtorEq, implies_true]); first | done | exact True.intro | rfl)) (by first | rfl | (simp only [LN, LP, V.ren, tup2, tup3])) (by simp only [tup2, tup3, laidH, refm, mach, NoIm, NoIm_W, NoIm_B, NoIm_dg', NoImL, errV, implies_true, and_self]) ?_
        (simp (maxSteps := 4000000) only [w0, LG, LP, LN, V.ren, renH, hrest, numsF, epk, epochs, Mv.hx, idsOK, bs, wmask, LK.isW, LK.isA, LK.isP, num, X.ev, vbuild, vbuildOK, vcaps, vcapsOK, hget, hset, hdel, hhas, padd, V.ok, V.get, V.set, V.fget, V.fhas, V.fset, noR, Z.v, Z.sz, dropTo, seval, reduceCtorEq, forall_const])
        repeat (refine And.intro (by first | omega | exact True.intro | rfl) ?_)
        refine ⟨q + 1, by omega, by omega, ?_⟩
        refine Weak.fr [0, 1] [] hx (by simp only [fr_length]) (by decide) ?_ ?_
        · simp only [Dg.at_zero, Sim_mach, solid_mach, LT, LP, SimL, SimA, Sim, SimH, frzA, frzX, hget, hhas, V.ok, V.get, V.fget, V.fhas, seval, reduceCtorEq, implies_true]
        · simp only [Dg.at_zero, Sim_mach, solid_mach, LT, LP, SimL, SimA, Sim, SimH, frzA, frzX, hget, hhas, V.ok, V.get, V.fget, V.fhas, seval, reduceCtorEq, implies_true]
          rw [foldN, if_neg h2]
end Mv
