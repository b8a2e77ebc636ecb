/- What the document fixes of the machine. -/
import Derived.Test.YtfoaeafobdamcaaDoorMwVg
set_option linter.unusedSimpArgs false
set_option linter.unusedVariables false
namespace Mv
open Go
set_option maxRecDepth 20000
set_option maxHeartbeats 4000000
set_option linter.unusedSimpArgs false

def fxU (j : Nat) : BitVec 64 := if j = 0 then cdW 26 1 0 0 0 5 else if j = 1 then cdW 26 2 0 0 0 (-3) else if j = 2 then cdW 1 3 1 2 0 0 else cdW 0 0 3 0 0 0
def fxM (i : Nat) : Mc :=
  if i = 0 then ⟨memW 4 fxU, fun _ => 0#64, 0#64, false, 0#64⟩
  else if i = 1 then ⟨memW 4 fxU, upd (fun _ => 0#64) 1 5#64, 1#64, false, 0#64⟩
  else if i = 2 then ⟨memW 4 fxU, upd (upd (fun _ => 0#64) 1 5#64) 2 18446744073709551613#64, 2#64, false, 0#64⟩
  else if i = 3 then ⟨memW 4 fxU, upd (upd (upd (fun _ => 0#64) 1 5#64) 2 18446744073709551613#64) 3 2#64, 3#64, false, 0#64⟩
  else ⟨memW 4 fxU, upd (upd (upd (fun _ => 0#64) 1 5#64) 2 18446744073709551613#64) 3 2#64, 3#64, true, 2#64⟩

theorem fx_step {M : Seat} (ok : OkW M) : ∀ i, i < 4 → (fxM i).hl = false ∧ StepTo M (fxM i) (fxM (i + 1)) := by
  intro i hi
  have hd : ∀ a b : BitVec 64, a = b → a = b := fun _ _ h => h
  match i, hi with
  | 0, _ => exact ⟨rfl, runs_StepLi ok.toOkV (memW 4 fxU) (fun _ => 0#64) 0#64 0#64 (by decide) (cdW 26 1 0 0 0 5) rfl (by decide) (by decide)⟩
  | 1, _ => exact ⟨rfl, runs_StepLi ok.toOkV (memW 4 fxU) (upd (fun _ => 0#64) 1 5#64) 1#64 0#64 (by decide) (cdW 26 2 0 0 0 (-3)) rfl (by decide) (by decide)⟩
  | 2, _ => exact ⟨rfl, runs_StepAdd ok (memW 4 fxU) (upd (upd (fun _ => 0#64) 1 5#64) 2 18446744073709551613#64) 2#64 0#64 (by decide) (cdW 1 3 1 2 0 0) rfl (by decide) (by decide)⟩
  | 3, _ => exact ⟨rfl, runs_StepHalt ok.toOkV (memW 4 fxU) (upd (upd (upd (fun _ => 0#64) 1 5#64) 2 18446744073709551613#64) 3 2#64) 3#64 0#64 (by decide) (cdW 0 0 3 0 0 0) rfl (by decide) (by decide)⟩

theorem runs_fixed10 {M : Seat} (okA : OkA M) (ok : OkW M) : Runs M 69 [] [] 0 (fun r H' k' => r = .bool true ∧ H' = [] ∧ k' = 0) := by
  refine runs_fr ok.k69 rfl fun x hx => ?_
  have w1 : IntKind.i64.wrap 1 = 1 := rfl
  have w2 : IntKind.i64.wrap 2 = 2 := rfl
  have w3 : IntKind.i64.wrap 3 = 3 := rfl
  have w4 : IntKind.i64.wrap 4 = 4 := rfl
  refine ex_sound 2000 _ _ _ _ ?_; (simp (maxSteps := 4000000) only [f69, c69, LG, LP, LN, V.ren, renH, hrest, numsF, epk, epochs, Mv.hx, idsOK, bs, wmask, LK.isW, LK.isA, LK.isP, num, X.ev, vbuild, vbuildOK, vcaps, vcapsOK, hget, hset, hdel, hhas, padd, V.ok, V.get, V.set, V.fget, V.fhas, V.fset, noR, Z.v, Z.sz, dropTo, seval, reduceCtorEq, forall_const])
  refine loop_once ?_
  refine ex_sound 2000 _ _ _ _ ?_
  (simp (maxSteps := 4000000) only [LG, LP, LN, V.ren, renH, hrest, numsF, epk, epochs, Mv.hx, idsOK, bs, wmask, LK.isW, LK.isA, LK.isP, num, X.ev, vbuild, vbuildOK, vcaps, vcapsOK, hget, hset, hdel, hhas, padd, V.ok, V.get, V.set, V.fget, V.fhas, V.fset, noR, Z.v, Z.sz, dropTo, seval, reduceCtorEq, forall_const])
  refine call_pA (runs_Code ok.toOkI 26 1 0 0 0 5 (by omega) (by omega) (by omega) (by omega) (by omega) (by omega)) (by ((try simp only [Dg.at_zero, Sim_mach, solid_mach, LT, LP, SimL, SimA, Sim, SimH, frzA, frzX, hget, hhas, V.ok, V.get, V.fget, V.fhas, seval, reduceCtorEq, implies_true]); first | done | exact True.intro | rfl)) (by first | rfl | (simp only [LN, LP, V.ren, tup2, tup3])) (by simp only [tup2, tup3, laidH, refm, mach, NoIm, NoIm_W, NoIm_B, NoIm_dg', NoImL, ws, implies_true, and_self]) ?_
  (simp (maxSteps := 4000000) only [tup2, w1, LG, LP, LN, V.ren, renH, hrest, numsF, epk, epochs, Mv.hx, idsOK, bs, wmask, LK.isW, LK.isA, LK.isP, num, X.ev, vbuild, vbuildOK, vcaps, vcapsOK, hget, hset, hdel, hhas, padd, V.ok, V.get, V.set, V.fget, V.fhas, V.fset, noR, Z.v, Z.sz, dropTo, seval, reduceCtorEq, forall_const])
  refine loop_once ?_
  refine ex_sound 2000 _ _ _ _ ?_
  (simp (maxSteps := 4000000) only [LG, LP, LN, V.ren, renH, hrest, numsF, epk, epochs, Mv.hx, idsOK, bs, wmask, LK.isW, LK.isA, LK.isP, num, X.ev, vbuild, vbuildOK, vcaps, vcapsOK, hget, hset, hdel, hhas, padd, V.ok, V.get, V.set, V.fget, V.fhas, V.fset, noR, Z.v, Z.sz, dropTo, seval, reduceCtorEq, forall_const])
  refine call_pA (runs_Code ok.toOkI 26 2 0 0 0 (-3) (by omega) (by omega) (by omega) (by omega) (by omega) (by omega)) (by ((try simp only [Dg.at_zero, Sim_mach, solid_mach, LT, LP, SimL, SimA, Sim, SimH, frzA, frzX, hget, hhas, V.ok, V.get, V.fget, V.fhas, seval, reduceCtorEq, implies_true]); first | done | exact True.intro | rfl)) (by first | rfl | (simp only [LN, LP, V.ren, tup2, tup3])) (by simp only [tup2, tup3, laidH, refm, mach, NoIm, NoIm_W, NoIm_B, NoIm_dg', NoImL, ws, implies_true, and_self]) ?_
  (simp (maxSteps := 4000000) only [tup2, w2, LG, LP, LN, V.ren, renH, hrest, numsF, epk, epochs, Mv.hx, idsOK, bs, wmask, LK.isW, LK.isA, LK.isP, num, X.ev, vbuild, vbuildOK, vcaps, vcapsOK, hget, hset, hdel, hhas, padd, V.ok, V.get, V.set, V.fget, V.fhas, V.fset, noR, Z.v, Z.sz, dropTo, seval, reduceCtorEq, forall_const])
  refine loop_once ?_
  refine ex_sound 2000 _ _ _ _ ?_
  (simp (maxSteps := 4000000) only [LG, LP, LN, V.ren, renH, hrest, numsF, epk, epochs, Mv.hx, idsOK, bs, wmask, LK.isW, LK.isA, LK.isP, num, X.ev, vbuild, vbuildOK, vcaps, vcapsOK, hget, hset, hdel, hhas, padd, V.ok, V.get, V.set, V.fget, V.fhas, V.fset, noR, Z.v, Z.sz, dropTo, seval, reduceCtorEq, forall_const])
  refine call_pA (runs_Code ok.toOkI 1 3 1 2 0 0 (by omega) (by omega) (by omega) (by omega) (by omega) (by omega)) (by ((try simp only [Dg.at_zero, Sim_mach, solid_mach, LT, LP, SimL, SimA, Sim, SimH, frzA, frzX, hget, hhas, V.ok, V.get, V.fget, V.fhas, seval, reduceCtorEq, implies_true]); first | done | exact True.intro | rfl)) (by first | rfl | (simp only [LN, LP, V.ren, tup2, tup3])) (by simp only [tup2, tup3, laidH, refm, mach, NoIm, NoIm_W, NoIm_B, NoIm_dg', NoImL, ws, implies_true, and_self]) ?_
  (simp (maxSteps := 4000000) only [tup2, w3, LG, LP, LN, V.ren, renH, hrest, numsF, epk, epochs, Mv.hx, idsOK, bs, wmask, LK.isW, LK.isA, LK.isP, num, X.ev, vbuild, vbuildOK, vcaps, vcapsOK, hget, hset, hdel, hhas, padd, V.ok, V.get, V.set, V.fget, V.fhas, V.fset, noR, Z.v, Z.sz, dropTo, seval, reduceCtorEq, forall_const])
  refine loop_once ?_
  refine ex_sound 2000 _ _ _ _ ?_
  (simp (maxSteps := 4000000) only [LG, LP, LN, V.ren, renH, hrest, numsF, epk, epochs, Mv.hx, idsOK, bs, wmask, LK.isW, LK.isA, LK.isP, num, X.ev, vbuild, vbuildOK, vcaps, vcapsOK, hget, hset, hdel, hhas, padd, V.ok, V.get, V.set, V.fget, V.fhas, V.fset, noR, Z.v, Z.sz, dropTo, seval, reduceCtorEq, forall_const])
  refine call_pA (runs_Code ok.toOkI 0 0 3 0 0 0 (by omega) (by omega) (by omega) (by omega) (by omega) (by omega)) (by ((try simp only [Dg.at_zero, Sim_mach, solid_mach, LT, LP, SimL, SimA, Sim, SimH, frzA, frzX, hget, hhas, V.ok, V.get, V.fget, V.fhas, seval, reduceCtorEq, implies_true]); first | done | exact True.intro | rfl)) (by first | rfl | (simp only [LN, LP, V.ren, tup2, tup3])) (by simp only [tup2, tup3, laidH, refm, mach, NoIm, NoIm_W, NoIm_B, NoIm_dg', NoImL, ws, implies_true, and_self]) ?_
  (simp (maxSteps := 4000000) only [tup2, w4, LG, LP, LN, V.ren, renH, hrest, numsF, epk, epochs, Mv.hx, idsOK, bs, wmask, LK.isW, LK.isA, LK.isP, num, X.ev, vbuild, vbuildOK, vcaps, vcapsOK, hget, hset, hdel, hhas, padd, V.ok, V.get, V.set, V.fget, V.fhas, V.fset, noR, Z.v, Z.sz, dropTo, seval, reduceCtorEq, forall_const])
  refine loop_once ?_
  refine ex_sound 2000 _ _ _ _ ?_
  (simp (maxSteps := 4000000) only [LG, LP, LN, V.ren, renH, hrest, numsF, epk, epochs, Mv.hx, idsOK, bs, wmask, LK.isW, LK.isA, LK.isP, num, X.ev, vbuild, vbuildOK, vcaps, vcapsOK, hget, hset, hdel, hhas, padd, V.ok, V.get, V.set, V.fget, V.fhas, V.fset, noR, Z.v, Z.sz, dropTo, seval, reduceCtorEq, forall_const])
  refine call_fA (runs_LoadW okA 4 (by omega) fxU) (by decide) (by ((try simp only [Dg.at_zero, Sim_mach, solid_mach, LT, LP, SimL, SimA, Sim, SimH, frzA, frzX, hget, hhas, V.ok, V.get, V.fget, V.fhas, seval, reduceCtorEq, implies_true]); first | done | exact True.intro | rfl | ((intro j hj; have : j = 0 ∨ j = 1 ∨ j = 2 ∨ j = 3 := by omega); (rcases this with rfl | rfl | rfl | rfl <;> exact (Sim_W _ _ _ _ _).mpr rfl)))) (by simp only [tup2, tup3, laidH, refm, mach, NoIm, NoIm_W, NoIm_B, NoIm_dg', NoImL, ws, implies_true, and_self]) (by simp only [tup2, tup3, laidH, refm, mach, NoIm, NoIm_W, NoIm_B, NoIm_dg', NoImL, ws, implies_true, and_self]) ?_
  (simp (maxSteps := 4000000) only [tup2, ren_mach, LG, LP, LN, V.ren, renH, hrest, numsF, epk, epochs, Mv.hx, idsOK, bs, wmask, LK.isW, LK.isA, LK.isP, num, X.ev, vbuild, vbuildOK, vcaps, vcapsOK, hget, hset, hdel, hhas, padd, V.ok, V.get, V.set, V.fget, V.fhas, V.fset, noR, Z.v, Z.sz, dropTo, seval, reduceCtorEq, forall_const])
  refine call_fA (runs_New okA ok.toOkS) (by decide) (by ((try simp only [stoH', stoV, kinV, Sim_prV, SimV_prV, Sim_mpPr, Sim_mp0, NoIm_prV, NoIm_mpPr, NoIm_seen, Dg.at_zero, Sim_mach, solid_mach, LT, LP, SimL, SimA, Sim, SimH, frzA, frzX, hget, hhas, V.ok, V.get, V.fget, V.fhas, seval, reduceCtorEq, implies_true]); first | done | exact True.intro | rfl)) (by simp only [stoH', stoV, kinV, Sim_prV, SimV_prV, Sim_mpPr, Sim_mp0, NoIm_prV, NoIm_mpPr, NoIm_seen, tup2, tup3, laidH, refm, mach, NoIm, NoIm_W, NoIm_B, NoIm_dg', NoImL, ws, implies_true, and_self]) (by simp only [stoH', stoV, kinV, Sim_prV, SimV_prV, Sim_mpPr, Sim_mp0, NoIm_prV, NoIm_mpPr, NoIm_seen, tup2, tup3, laidH, refm, mach, NoIm, NoIm_W, NoIm_B, NoIm_dg', NoImL, ws, implies_true, and_self]) ?_
  (simp (maxSteps := 4000000) only [stoH', stoV, kinV, ren_seen, stp_mkmap, stp_mlook, stp_mupd, vlook_m, vupd_m, vlook_mpV, vupd_mpV, lkR_st, lkR_nt, lkR_sf, lkR_nf, solid_prV, size_prV, agg_prV, ren_prV, get_prV, isAr_prV, veqP_prV, veqV_prV, tpc_prV, tpp_prV, isAr_dg, elemsB_dg, elemsC_dg, elemsB_prV, elemsC_prV, ren_mpPr, ren_mach, LG, LP, LN, V.ren, renH, hrest, numsF, epk, epochs, Mv.hx, idsOK, bs, wmask, LK.isW, LK.isA, LK.isP, num, X.ev, vbuild, vbuildOK, vcaps, vcapsOK, hget, hset, hdel, hhas, padd, V.ok, V.get, V.set, V.fget, V.fhas, V.fset, noR, Z.v, Z.sz, dropTo, seval, reduceCtorEq, forall_const])
  have hr := runs_Run ok.toOkV fxM 4 99 (by omega) (by omega) (fx_step ok) (.inl rfl)
  have e0 : (fxM 0).v = mach (memW 4 fxU) (fun _ => 0#64) 0#64 false 0#64 := rfl
  have e4 : (fxM 4).v = mach (memW 4 fxU) (upd (upd (upd (fun _ => 0#64) 1 5#64) 2 18446744073709551613#64) 3 2#64) 3#64 true 2#64 := rfl
  rw [e0, e4] at hr
  refine call_mB [2224, 2432] [2224] (hr) (by rfl) (by rfl) (by decide) (by rfl) (by rfl) (by ((try simp only [mach, Dg.at_zero, Sim_mach, solid_mach, LT, LP, SimL, SimA, Sim, SimH, frzA, frzX, hget, hhas, V.ok, V.get, V.fget, V.fhas, seval, reduceCtorEq, implies_true]); first | done | exact True.intro | rfl)) (by ((try simp only [mach, Dg.at_zero, Sim_mach, solid_mach, LT, LP, SimL, SimA, Sim, SimH, frzA, frzX, hget, hhas, V.ok, V.get, V.fget, V.fhas, seval, reduceCtorEq, implies_true]); first | done | exact True.intro | rfl)) (by simp only [mach, tup2, tup3, laidH, refm, mach, NoIm, NoIm_W, NoIm_B, NoIm_dg', NoImL, ws, implies_true, and_self]) (by simp only [mach, tup2, tup3, laidH, refm, mach, NoIm, NoIm_W, NoIm_B, NoIm_dg', NoImL, ws, implies_true, and_self]) ?_
  (simp (maxSteps := 4000000) only [tup2, ren_mach, mach, LG, LP, LN, V.ren, renH, hrest, numsF, epk, epochs, Mv.hx, idsOK, bs, wmask, LK.isW, LK.isA, LK.isP, num, X.ev, vbuild, vbuildOK, vcaps, vcapsOK, hget, hset, hdel, hhas, padd, V.ok, V.get, V.set, V.fget, V.fhas, V.fset, noR, Z.v, Z.sz, dropTo, seval, reduceCtorEq, forall_const])
  refine RetS.mk hx [] [] _ _ _ (by decide) (by (simp only [res, resPs, resP, LTP, resV, tup2, tup3, dg, LG, LP, LN, V.ren, renH, hrest, numsF, epk, epochs, Mv.hx, idsOK, bs, wmask, LK.isW, LK.isA, LK.isP, num, X.ev, vbuild, vbuildOK, vcaps, vcapsOK, hget, hset, hdel, hhas, padd, V.ok, V.get, V.set, V.fget, V.fhas, V.fset, noR, Z.v, Z.sz, dropTo, seval, reduceCtorEq, forall_const])) (by ((try simp only [res, resV, LTP, tup2, tup3, LG, LP, LN, V.ren, renH, hrest, numsF, epk, epochs, Mv.hx, idsOK, bs, wmask, LK.isW, LK.isA, LK.isP, num, X.ev, vbuild, vbuildOK, vcaps, vcapsOK, hget, hset, hdel, hhas, padd, V.ok, V.get, V.set, V.fget, V.fhas, V.fset, noR, Z.v, Z.sz, dropTo, seval, reduceCtorEq, forall_const, Dg.at_zero, Sim_mach, solid_mach, LT, LP, SimL, SimA, Sim, SimH, frzA, frzX, hget, hhas, V.ok, V.get, V.fget, V.fhas, seval, reduceCtorEq, implies_true, dg]); first | done | exact True.intro | (intros; rfl))) (by ((try simp only [Dg.at_zero, Sim_mach, solid_mach, LT, LP, SimL, SimA, Sim, SimH, frzA, frzX, hget, hhas, V.ok, V.get, V.fget, V.fhas, seval, reduceCtorEq, implies_true]); first | done | exact True.intro | (intros; rfl))) ⟨rfl, rfl, rfl⟩
end Mv
namespace Mv
open Go
set_option maxRecDepth 20000
set_option maxHeartbeats 4000000
set_option linter.unusedSimpArgs false

/-- n, cut to 32 bits. -/
def i32 (n : Int) : Int := if n % 4294967296 ≥ 2147483648 then n % 4294967296 - 4294967296 else n % 4294967296
theorem i32_wrap (n : Int) : IntKind.i32.wrap n = i32 n := by simp [i32, IntKind.wrap, IntKind.bits, IntKind.signed]
theorem i32_in (n : Int) : -2147483648 ≤ i32 n ∧ i32 n < 2147483648 := by unfold i32; split <;> omega
theorem i32_i64 (n : Int) : IntKind.i64.wrap (i32 n) = i32 n := by have := i32_in n; rw [wrap_i64 (by omega)]

theorem ofInt_small (q : Nat) (hq : q < 100) : (BitVec.ofInt 64 (q : Int)).toNat = q := by
  rw [ofInt_n, BitVec.toNat_ofNat, Nat.mod_eq_of_lt (by omega)]
theorem mulAdd (x y : BitVec 64) (m : Nat) (k q : Nat) (hm : (BitVec.ofNat 64 m).toNat = m) (hx : x.toNat = k) (hy : y.toNat = q) (h : k * m + q < 18446744073709551616) : (x * BitVec.ofNat 64 m + y).toNat = k * m + q := by
  rw [BitVec.toNat_add, BitVec.toNat_mul, hx, hy, hm, Nat.mod_eq_of_lt (a := k * m) (by omega), Nat.mod_eq_of_lt h]
theorem and32 (n : Int) : (BitVec.ofInt 64 n &&& 4294967295#64).toNat = (n % 4294967296).toNat := by
  have e : (4294967295#64).toNat = 2 ^ 32 - 1 := by decide
  rw [BitVec.toNat_and, e, Nat.and_two_pow_sub_one_eq_mod, BitVec.toNat_ofInt]
  omega
theorem rcW_nat (op d a b c : Nat) (ho : op ≤ 35) (hd : d < 16) (ha : a < 16) (hb : b < 16) (hc : c < 16) (n : Int) :
    (rcW op d a b c n).toNat = ((((op * 16 + d) * 16 + a) * 16 + b) * 16 + c) * 1099511627776 + (n % 4294967296).toNat := by
  have e3 : (n % 4294967296).toNat < 4294967296 := by omega
  have h16 : (BitVec.ofNat 64 16).toNat = 16 := by decide
  have h40 : (BitVec.ofNat 64 1099511627776).toNat = 1099511627776 := by decide
  have s1 := mulAdd _ _ 16 op d h16 (ofInt_small op (by omega)) (ofInt_small d (by omega)) (by omega)
  have s2 := mulAdd _ _ 16 _ a h16 s1 (ofInt_small a (by omega)) (by omega)
  have s3 := mulAdd _ _ 16 _ b h16 s2 (ofInt_small b (by omega)) (by omega)
  have s4 := mulAdd _ _ 16 _ c h16 s3 (ofInt_small c (by omega)) (by omega)
  exact mulAdd _ _ 1099511627776 _ _ h40 s4 (and32 n) (by omega)
theorem rcW_op (op d a b c : Nat) (ho : op ≤ 35) (hd : d < 16) (ha : a < 16) (hb : b < 16) (hc : c < 16) (n : Int) : pOp (rcW op d a b c n) = op := by
  rw [pOp_nat, rcW_nat op d a b c ho hd ha hb hc]; omega
theorem rcW_z (op d a b c : Nat) (ho : op ≤ 35) (hd : d < 16) (ha : a < 16) (hb : b < 16) (hc : c < 16) (n : Int) : rcW op d a b c n >>> 32 &&& 255#64 = 0#64 := by
  rw [pZ_nat, rcW_nat op d a b c ho hd ha hb hc]; omega
theorem rcW_d (op d a b c : Nat) (ho : op ≤ 35) (hd : d < 16) (ha : a < 16) (hb : b < 16) (hc : c < 16) (n : Int) : pF (rcW op d a b c n) 52 = d := by
  rw [pF_nat, rcW_nat op d a b c ho hd ha hb hc]; omega
theorem rcW_a (op d a b c : Nat) (ho : op ≤ 35) (hd : d < 16) (ha : a < 16) (hb : b < 16) (hc : c < 16) (n : Int) : pF (rcW op d a b c n) 48 = a := by
  rw [pF_nat, rcW_nat op d a b c ho hd ha hb hc]; omega
theorem rcW_b (op d a b c : Nat) (ho : op ≤ 35) (hd : d < 16) (ha : a < 16) (hb : b < 16) (hc : c < 16) (n : Int) : pF (rcW op d a b c n) 44 = b := by
  rw [pF_nat, rcW_nat op d a b c ho hd ha hb hc]; omega
theorem rcW_c (op d a b c : Nat) (ho : op ≤ 35) (hd : d < 16) (ha : a < 16) (hb : b < 16) (hc : c < 16) (n : Int) : pF (rcW op d a b c n) 40 = c := by
  rw [pF_nat, rcW_nat op d a b c ho hd ha hb hc]; omega
theorem rcW_n (op d a b c : Nat) (ho : op ≤ 35) (hd : d < 16) (ha : a < 16) (hb : b < 16) (hc : c < 16) (n : Int) (hn : -2147483648 ≤ n ∧ n < 2147483648) : pN (rcW op d a b c n) = n := by
  rw [pN_nat, rcW_nat op d a b c ho hd ha hb hc]
  have : (((((op * 16 + d) * 16 + a) * 16 + b) * 16 + c) * 1099511627776 + (n % 4294967296).toNat) % 4294967296 = (n % 4294967296).toNat := by omega
  rw [this]
  split <;> omega

theorem esM_P (c : Bool) (f g f' g' : Nat → BitVec 64) (pc pc' xt xt' : BitVec 64) (hl hl' : Bool) : veqP c (.st (.cons 0 8192 true (.ar 8192 1 false .int) (.cons 8192 16 true (.ar 16 1 false .int) (.cons 8208 1 false .int (.cons 8209 1 false .bool (.cons 8210 1 false .int .nil)))))) (.st 8211 (.fcons 0 (.ar 1 8192 (fun j => W (f j))) (.fcons 8192 (.ar 1 16 (fun j => W (g j))) (.fcons 8208 (W pc) (.fcons 8209 (.bool hl) (.fcons 8210 (W xt) .fnil)))))) (.st 8211 (.fcons 0 (.ar 1 8192 (fun j => W (f' j))) (.fcons 8192 (.ar 1 16 (fun j => W (g' j))) (.fcons 8208 (W pc') (.fcons 8209 (.bool hl') (.fcons 8210 (W xt') .fnil)))))) = True := by
  refine eq_true ?_
  simp only [veqP, V.fhas, V.fget, Dg.at_zero, Sim_mach, solid_mach, LT, LP, SimL, SimA, Sim, SimH, frzA, frzX, hget, hhas, V.ok, V.get, V.fget, V.fhas, seval, reduceCtorEq, implies_true, W, V.size, V.isAgg, V.solid]
theorem esM_V (f g : Nat → BitVec 64) (pc xt : BitVec 64) (hl : Bool) : veqV (.st (.cons 0 8192 true (.ar 8192 1 false .int) (.cons 8192 16 true (.ar 16 1 false .int) (.cons 8208 1 false .int (.cons 8209 1 false .bool (.cons 8210 1 false .int .nil)))))) (.st 8211 (.fcons 0 (.ar 1 8192 (fun j => W (f j))) (.fcons 8192 (.ar 1 16 (fun j => W (g j))) (.fcons 8208 (W pc) (.fcons 8209 (.bool hl) (.fcons 8210 (W xt) .fnil)))))) (.st 8211 (.fcons 0 (.ar 1 8192 (fun j => W (f j))) (.fcons 8192 (.ar 1 16 (fun j => W (g j))) (.fcons 8208 (W pc) (.fcons 8209 (.bool hl) (.fcons 8210 (W xt) .fnil)))))) = true := by
  have h1 : ∀ a : BitVec 64, veqV .int (W a) (W a) = true := fun a => by simp only [veqV, W, decide_true]
  have h2 : ∀ (n : Nat) (f : Nat → BitVec 64), veqV (.ar n 1 false .int) (.ar 1 n (fun j => W (f j))) (.ar 1 n (fun j => W (f j))) = true := fun n f => by
    simp only [veqV, W, decide_true]; simp
  have e : ∀ fs a b, veqV (.st fs) (.st 8211 a) (.st 8211 b) = veqV fs a b := fun _ _ _ => rfl
  have e2 : ∀ o s ag t r a b, veqV (.cons o s ag t r) a b = (veqV t (a.fget o) (b.fget o) && veqV r a b) := fun _ _ _ _ _ _ _ => rfl
  have e3 : ∀ a b, veqV .nil a b = true := fun _ _ => by cases hl <;> rfl
  simp only [e, e2, e3, V.fget, if_true, Nat.reduceEqDiff, if_false, h1, h2, eqV_b, seval, Bool.and_self, beq_self_eq_true]
theorem rcOk_in (op : Nat) (ho : op ≤ 35) (n : Int) (hn : -2147483648 ≤ n ∧ n < 2147483648) : rcOk op n = true := by
  simp only [rcOk, decide_eq_true_eq]; omega
end Mv
