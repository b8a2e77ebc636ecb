/- What the document fixes of the machine. -/
import Derived.Test.YtfoaeafobdamcaaDoorMwVh
set_option linter.unusedSimpArgs false
set_option linter.unusedVariables false
namespace Mv
open Go
set_option maxRecDepth 20000
set_option maxHeartbeats 4000000
set_option linter.unusedSimpArgs false

def fxU (j : Nat) : BitVec 64 := if j = 0 then cdW 26 1 0 0 0 5 else if j = 1 then cdW 26 2 0 0 0 (-3) else if j = 2 then cdW 1 3 1 2 0 0 else cdW 0 0 3 0 0 0
def fxM (i : Nat) : Mc :=
  if i = 0 then ⟨memW 4 fxU, fun _ => 0#64, 0#64, false, 0#64⟩
  else if i = 1 then ⟨memW 4 fxU, upd (fun _ => 0#64) 1 5#64, 1#64, false, 0#64⟩
  else if i = 2 then ⟨memW 4 fxU, upd (upd (fun _ => 0#64) 1 5#64) 2 18446744073709551613#64, 2#64, false, 0#64⟩
  else if i = 3 then ⟨memW 4 fxU, upd (upd (upd (fun _ => 0#64) 1 5#64) 2 18446744073709551613#64) 3 2#64, 3#64, false, 0#64⟩
  else ⟨memW 4 fxU, upd (upd (upd (fun _ => 0#64) 1 5#64) 2 18446744073709551613#64) 3 2#64, 3#64, true, 2#64⟩

theorem fx_step {M : Seat} (ok : OkW M) : ∀ i, i < 4 → (fxM i).hl = false ∧ StepTo M (fxM i) (fxM (i + 1)) := by
  intro i hi
  have hd : ∀ a b : BitVec 64, a = b → a = b := fun _ _ h => h
  match i, hi with
  | 0, _ => exact ⟨rfl, runs_StepLi ok.toOkV (memW 4 fxU) (fun _ => 0#64) 0#64 0#64 (by decide) (cdW 26 1 0 0 0 5) rfl (by decide) (by decide)⟩
  | 1, _ => exact ⟨rfl, runs_StepLi ok.toOkV (memW 4 fxU) (upd (fun _ => 0#64) 1 5#64) 1#64 0#64 (by decide) (cdW 26 2 0 0 0 (-3)) rfl (by decide) (by decide)⟩
  | 2, _ => exact ⟨rfl, runs_StepAdd ok (memW 4 fxU) (upd (upd (fun _ => 0#64) 1 5#64) 2 18446744073709551613#64) 2#64 0#64 (by decide) (cdW 1 3 1 2 0 0) rfl (by decide) (by decide)⟩
  | 3, _ => exact ⟨rfl, runs_StepHalt ok.toOkV (memW 4 fxU) (upd (upd (upd (fun _ => 0#64) 1 5#64) 2 18446744073709551613#64) 3 2#64) 3#64 0#64 (by decide) (cdW 0 0 3 0 0 0) rfl (by decide) (by decide)⟩

theorem runs_fixed10 {M : Seat} (okA : OkA M) (ok : OkW M) : Runs M 69 [] [] 0 (fun r H' k' => r = .bool true ∧ H' = [] ∧ k' = 0) := by
  refine runs_fr ok.k69 rfl fun x hx => ?_
  have w1 : IntKind.i64.wrap 1 = 1 := rfl
  have w2 : IntKind.i64.wrap 2 = 2 := rfl
  have w3 : IntKind.i64.wrap 3 = 3 := rfl
  have w4 : IntKind.i64.wrap 4 = 4 := rfl
  refine ex_sound 2000 _ _ _ _ ?_; (simp (maxSteps := 4000000) only [f69, c69, LG, LP, LN, V.ren, renH, hrest, numsF, epk, epochs, Mv.hx, idsOK, bs, wmask, LK.isW, LK.isA, LK.isP, num, X.ev, vbuild, vbuildOK, vcaps, vcapsOK, hget, hset, hdel, hhas, padd, V.ok, V.get, V.set, V.fget, V.fhas, V.fset, noR, Z.v, Z.sz, dropTo, seval, reduceCtorEq, forall_const])
  refine loop_once ?_
  refine ex_sound 2000 _ _ _ _ ?_
  (simp (maxSteps := 4000000) only [LG, LP, LN, V.ren, renH, hrest, numsF, epk, epochs, Mv.hx, idsOK, bs, wmask, LK.isW, LK.isA, LK.isP, num, X.ev, vbuild, vbuildOK, vcaps, vcapsOK, hget, hset, hdel, hhas, padd, V.ok, V.get, V.set, V.fget, V.fhas, V.fset, noR, Z.v, Z.sz, dropTo, seval, reduceCtorEq, forall_const])
  refine call_pA (runs_Code ok.toOkI 26 1 0 0 0 5 (by omega) (by omega) (by omega) (by omega) (by omega) (by omega)) (by ((try simp only [Dg.at_zero, Sim_mach, solid_mach, LT, LP, SimL, SimA, Sim, SimH, frzA, frzX, hget, hhas, V.ok, V.get, V.fget, V.fhas, seval, reduceCtorEq, implies_true]); first | done | exact True.intro | rfl)) (by first | rfl | (simp only [LN, LP, V.ren, tup2, tup3])) (by simp only [tup2, tup3, laidH, refm, mach, NoIm, NoIm_W, NoIm_B, NoIm_dg', NoImL, ws, implies_true, and_self]) ?_
  (simp (maxSteps := 4000000) only [tup2, w1, LG, LP, LN, V.ren, renH, hrest, numsF, epk, epochs, Mv.hx, idsOK, bs, wmask, LK.isW, LK.isA, LK.isP, num, X.ev, vbuild, vbuildOK, vcaps, vcapsOK, hget, hset, hdel, hhas, padd, V.ok, V.get, V.set, V.fget, V.fhas, V.fset, noR, Z.v, Z.sz, dropTo, seval, reduceCtorEq, forall_const])
  refine loop_once ?_
  refine ex_sound 2000 _ _ _ _ ?_
  (simp (maxSteps := 4000000) only [LG, LP, LN, V.ren, renH, hrest, numsF, epk, epochs, Mv.hx, idsOK, bs, wmask, LK.isW, LK.isA, LK.isP, num, X.ev, vbuild, vbuildOK, vcaps, vcapsOK, hget, hset, hdel, hhas, padd, V.ok, V.get, V.set, V.fget, V.fhas, V.fset, noR, Z.v, Z.sz, dropTo, seval, reduceCtorEq, forall_const])
  refine call_pA (runs_Code ok.toOkI 26 2 0 0 0 (-3) (by omega) (by omega) (by omega) (by omega) (by omega) (by omega)) (by ((try simp only [Dg.at_zero, Sim_mach, solid_mach, LT, LP, SimL, SimA, Sim, SimH, frzA, frzX, hget, hhas, V.ok, V.get, V.fget, V.fhas, seval, reduceCtorEq, implies_true]); first | done | exact True.intro | rfl)) (by first | rfl | (simp only [LN, LP, V.ren, tup2, tup3])) (by simp only [tup2, tup3, laidH, refm, mach, NoIm, NoIm_W, NoIm_B, NoIm_dg', NoImL, ws, implies_true, and_self]) ?_
  (simp (maxSteps := 4000000) only [tup2, w2, LG, LP, LN, V.ren, renH, hrest, numsF, epk, epochs, Mv.hx, idsOK, bs, wmask, LK.isW, LK.isA, LK.isP, num, X.ev, vbuild, vbuildOK, vcaps, vcapsOK, hget, hset, hdel, hhas, padd, V.ok, V.get, V.set, V.fget, V.fhas, V.fset, noR, Z.v, Z.sz, dropTo, seval, reduceCtorEq, forall_const])
  refine loop_once ?_
  refine ex_sound 2000 _ _ _ _ ?_
  (simp (maxSteps := 4000000) only [LG, LP, LN, V.ren, renH, hrest, numsF, epk, epochs, Mv.hx, idsOK, bs, wmask, LK.isW, LK.isA, LK.isP, num, X.ev, vbuild, vbuildOK, vcaps, vcapsOK, hget, hset, hdel, hhas, padd, V.ok, V.get, V.set, V.fget, V.fhas, V.fset, noR, Z.v, Z.sz, dropTo, seval, reduceCtorEq, forall_const])
  refine call_pA (runs_Code ok.toOkI 1 3 1 2 0 0 (by omega) (by omega) (by omega) (by omega) (by omega) (by omega)) (by ((try simp only [Dg.at_zero, Sim_mach, solid_mach, LT, LP, SimL, SimA, Sim, SimH, frzA, frzX, hget, hhas, V.ok, V.get, V.fget, V.fhas, seval, reduceCtorEq, implies_true]); first | done | exact True.intro | rfl)) (by first | rfl | (simp only [LN, LP, V.ren, tup2, tup3])) (by simp only [tup2, tup3, laidH, refm, mach, NoIm, NoIm_W, NoIm_B, NoIm_dg', NoImL, ws, implies_true, and_self]) ?_
  (simp (maxSteps := 4000000) only [tup2, w3, LG, LP, LN, V.ren, renH, hrest, numsF, epk, epochs, Mv.hx, idsOK, bs, wmask, LK.isW, LK.isA, LK.isP, num, X.ev, vbuild, vbuildOK, vcaps, vcapsOK, hget, hset, hdel, hhas, padd, V.ok, V.get, V.set, V.fget, V.fhas, V.fset, noR, Z.v, Z.sz, dropTo, seval, reduceCtorEq, forall_const])
  refine loop_once ?_
  refine ex_sound 2000 _ _ _ _ ?_
  (simp (maxSteps := 4000000) only [LG, LP, LN, V.ren, renH, hrest, numsF, epk, epochs, Mv.hx, idsOK, bs, wmask, LK.isW, LK.isA, LK.isP, num, X.ev, vbuild, vbuildOK, vcaps, vcapsOK, hget, hset, hdel, hhas, padd, V.ok, V.get, V.set, V.fget, V.fhas, V.fset, noR, Z.v, Z.sz, dropTo, seval, reduceCtorEq, forall_const])
  refine call_pA (runs_Code ok.toOkI 0 0 3 0 0 0 (by omega) (by omega) (by omega) (by omega) (by omega) (by omega)) (by ((try simp only [Dg.at_zero, Sim_mach, solid_mach, LT, LP, SimL, SimA, Sim, SimH, frzA, frzX, hget, hhas, V.ok, V.get, V.fget, V.fhas, seval, reduceCtorEq, implies_true]); first | done | exact True.intro | rfl)) (by first | rfl | (simp only [LN, LP, V.ren, tup2, tup3])) (by simp only [tup2, tup3, laidH, refm, mach, NoIm, NoIm_W, NoIm_B, NoIm_dg', NoImL, ws, implies_true, and_self]) ?_
  (simp (maxSteps := 4000000) only [tup2, w4, LG, LP, LN, V.ren, renH, hrest, numsF, epk, epochs, Mv.hx, idsOK, bs, wmask, LK.isW, LK.isA, LK.isP, num, X.ev, vbuild, vbuildOK, vcaps, vcapsOK, hget, hset, hdel, hhas, padd, V.ok, V.get, V.set, V.fget, V.fhas, V.fset, noR, Z.v, Z.sz, dropTo, seval, reduceCtorEq, forall_const])
  refine loop_once ?_
  refine ex_sound 2000 _ _ _ _ ?_
  (simp (maxSteps := 4000000) only [LG, LP, LN, V.ren, renH, hrest, numsF, epk, epochs, Mv.hx, idsOK, bs, wmask, LK.isW, LK.isA, LK.isP, num, X.ev, vbuild, vbuildOK, vcaps, vcapsOK, hget, hset, hdel, hhas, padd, V.ok, V.get, V.set, V.fget, V.fhas, V.fset, noR, Z.v, Z.sz, dropTo, seval, reduceCtorEq, forall_const])
  refine call_fA (runs_LoadW okA 4 (by omega) fxU) (by decide) (by ((try simp only [Dg.at_zero, Sim_mach, solid_mach, LT, LP, SimL, SimA, Sim, SimH, frzA, frzX, hget, hhas, V.ok, V.get, V.fget, V.fhas, seval, reduceCtorEq, implies_true]); first | done | exact True.intro | rfl | ((intro j hj; have : j = 0 ∨ j = 1 ∨ j = 2 ∨ j = 3 := by omega); (rcases this with rfl | rfl | rfl | rfl <;> exact (Sim_W _ _ _ _ _).mpr rfl)))) (by simp only [tup2, tup3, laidH, refm, mach, NoIm, NoIm_W, NoIm_B, NoIm_dg', NoImL, ws, implies_true, and_self]) (by simp only [tup2, tup3, laidH, refm, mach, NoIm, NoIm_W, NoIm_B, NoIm_dg', NoImL, ws, implies_true, and_self]) ?_
  (simp (maxSteps := 4000000) only [tup2, ren_mach, LG, LP, LN, V.ren, renH, hrest, numsF, epk, epochs, Mv.hx, idsOK, bs, wmask, LK.isW, LK.isA, LK.isP, num, X.ev, vbuild, vbuildOK, vcaps, vcapsOK, hget, hset, hdel, hhas, padd, V.ok, V.get, V.set, V.fget, V.fhas, V.fset, noR, Z.v, Z.sz, dropTo, seval, reduceCtorEq, forall_const])
  refine call_fA (runs_New okA ok.toOkS) (by decide) (by ((try simp only [stoH', stoV, kinV, Sim_prV, SimV_prV, Sim_mpPr, Sim_mp0, NoIm_prV, NoIm_mpPr, NoIm_seen, Dg.at_zero, Sim_mach, solid_mach, LT, LP, SimL, SimA, Sim, SimH, frzA, frzX, hget, hhas, V.ok, V.get, V.fget, V.fhas, seval, reduceCtorEq, implies_true]); first | done | exact True.intro | rfl)) (by simp only [stoH', stoV, kinV, Sim_prV, SimV_prV, Sim_mpPr, Sim_mp0, NoIm_prV, NoIm_mpPr, NoIm_seen, tup2, tup3, laidH, refm, mach, NoIm, NoIm_W, NoIm_B, NoIm_dg', NoImL, ws, implies_true, and_self]) (by simp only [stoH', stoV, kinV, Sim_prV, SimV_prV, Sim_mpPr, Sim_mp0, NoIm_prV, NoIm_mpPr, NoIm_seen, tup2, tup3, laidH, refm, mach, NoIm, NoIm_W, NoIm_B, NoIm_dg', NoImL, ws, implies_true, and_self]) ?_
  (simp (maxSteps := 4000000) only [stoH', stoV, kinV, ren_seen, stp_mkmap, stp_mlook, stp_mupd, vlook_m, vupd_m, vlook_mpV, vupd_mpV, lkR_st, lkR_nt, lkR_sf, lkR_nf, solid_prV, size_prV, agg_prV, ren_prV, get_prV, isAr_prV, veqP_prV, veqV_prV, tpc_prV, tpp_prV, isAr_dg, elemsB_dg, elemsC_dg, elemsB_prV, elemsC_prV, ren_mpPr, ren_mach, LG, LP, LN, V.ren, renH, hrest, numsF, epk, epochs, Mv.hx, idsOK, bs, wmask, LK.isW, LK.isA, LK.isP, num, X.ev, vbuild, vbuildOK, vcaps, vcapsOK, hget, hset, hdel, hhas, padd, V.ok, V.get, V.set, V.fget, V.fhas, V.fset, noR, Z.v, Z.sz, dropTo, seval, reduceCtorEq, forall_const])
  have hr := runs_Run ok.toOkV fxM 4 99 (by omega) (by omega) (fx_step ok) (.inl rfl)
  have e0 : (fxM 0).v = mach (memW 4 fxU) (fun _ => 0#64) 0#64 false 0#64 := rfl
  have e4 : (fxM 4).v = mach (memW 4 fxU) (upd (upd (upd (fun _ => 0#64) 1 5#64) 2 18446744073709551613#64) 3 2#64) 3#64 true 2#64 := rfl
  rw [e0, e4] at hr
  refine call_mB [2224, 2432] [2224] (hr) (by rfl) (by rfl) (by decide) (by rfl) (by rfl) (by ((try simp only [mach, Dg.at_zero, Sim_mach, solid_mach, LT, LP, SimL, SimA, Sim, SimH, frzA, frzX, hget, hhas, V.ok, V.get, V.fget, V.fhas, seval, reduceCtorEq, implies_true]); first | done | exact True.intro | rfl)) (by ((try simp only [mach, Dg.at_zero, Sim_mach, solid_mach, LT, LP, SimL, SimA, Sim, SimH, frzA, frzX, hget, hhas, V.ok, V.get, V.fget, V.fhas, seval, reduceCtorEq, implies_true]); first | done | exact True.intro | rfl)) (by simp only [mach, tup2, tup3, laidH, refm, mach, NoIm, NoIm_W, NoIm_B, NoIm_dg', NoImL, ws, implies_true, and_self]) (by simp only [mach, tup2, tup3, laidH, refm, mach, NoIm, NoIm_W, NoIm_B, NoIm_dg', NoImL, ws, implies_true, and_self]) ?_
  (simp (maxSteps := 4000000) only [tup2, ren_mach, mach, LG, LP, LN, V.ren, renH, hrest, numsF, epk, epochs, Mv.hx, idsOK, bs, wmask, LK.isW, LK.isA, LK.isP, num, X.ev, vbuild, vbuildOK, vcaps, vcapsOK, hget, hset, hdel, hhas, padd, V.ok, V.get, V.set, V.fget, V.fhas, V.fset, noR, Z.v, Z.sz, dropTo, seval, reduceCtorEq, forall_const])
  refine RetS.mk hx [] [] _ _ _ (by decide) (by (simp only [res, resPs, resP, LTP, resV, tup2, tup3, dg, LG, LP, LN, V.ren, renH, hrest, numsF, epk, epochs, Mv.hx, idsOK, bs, wmask, LK.isW, LK.isA, LK.isP, num, X.ev, vbuild, vbuildOK, vcaps, vcapsOK, hget, hset, hdel, hhas, padd, V.ok, V.get, V.set, V.fget, V.fhas, V.fset, noR, Z.v, Z.sz, dropTo, seval, reduceCtorEq, forall_const])) (by ((try simp only [res, resV, LTP, tup2, tup3, LG, LP, LN, V.ren, renH, hrest, numsF, epk, epochs, Mv.hx, idsOK, bs, wmask, LK.isW, LK.isA, LK.isP, num, X.ev, vbuild, vbuildOK, vcaps, vcapsOK, hget, hset, hdel, hhas, padd, V.ok, V.get, V.set, V.fget, V.fhas, V.fset, noR, Z.v, Z.sz, dropTo, seval, reduceCtorEq, forall_const, Dg.at_zero, Sim_mach, solid_mach, LT, LP, SimL, SimA, Sim, SimH, frzA, frzX, hget, hhas, V.ok, V.get, V.fget, V.fhas, seval, reduceCtorEq, implies_true, dg]); first | done | exact True.intro | (intros; rfl))) (by ((try simp only [Dg.at_zero, Sim_mach, solid_mach, LT, LP, SimL, SimA, Sim, SimH, frzA, frzX, hget, hhas, V.ok, V.get, V.fget, V.fhas, seval, reduceCtorEq, implies_true]); first | done | exact True.intro | (intros; rfl))) ⟨rfl, rfl, rfl⟩
end Mv
