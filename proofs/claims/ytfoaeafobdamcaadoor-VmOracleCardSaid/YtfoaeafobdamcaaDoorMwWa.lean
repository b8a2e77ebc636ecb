/- Small functions about stores and bytes. -/
import Derived.Test.YtfoaeafobdamcaaDoorMwVi
set_option linter.unusedSimpArgs false
set_option linter.unusedVariables false
namespace Mv
open Go
set_option maxRecDepth 20000
set_option maxHeartbeats 4000000
set_option linter.unusedSimpArgs false

structure OkO (M : Seat) : Prop extends OkW M where
  k72 : chkF M 72 f72 = true
  k308 : chkF M 308 f308 = true
  k327 : chkF M 327 f327 = true
  k326 : chkF M 326 f326 = true
  k217 : chkF M 217 f217 = true

theorem runs_within {M : Seat} (ok : OkO M) (a b : BitVec 64) : Runs M 326 [W a, W b] [] 0 (fun r H' k' => r = .bool (decide (a ≤ 8192#64) && decide (b ≤ 8192#64 - a)) ∧ H' = [] ∧ k' = 0) := by
  refine runs_fr ok.k326 rfl fun x hx => ?_
  rcases Classical.propComplete (a ≤ 8192#64) with h | h
  all_goals refine ex_sound 2000 _ _ _ _ ?_; (simp (maxSteps := 4000000) only [f326, c326, h, LG, LP, LN, V.ren, renH, hrest, numsF, epk, epochs, Mv.hx, idsOK, bs, wmask, LK.isW, LK.isA, LK.isP, num, X.ev, vbuild, vbuildOK, vcaps, vcapsOK, hget, hset, hdel, hhas, padd, V.ok, V.get, V.set, V.fget, V.fhas, V.fset, noR, Z.v, Z.sz, dropTo, seval, reduceCtorEq, forall_const])
  all_goals try simp only [h, decide_true, decide_false, Bool.true_and, Bool.false_and]
  all_goals refine RetS.mk hx [] [] _ _ _ (by decide) (by (simp only [res, resPs, resP, LTP, resV, tup2, tup3, dg, LG, LP, LN, V.ren, renH, hrest, numsF, epk, epochs, Mv.hx, idsOK, bs, wmask, LK.isW, LK.isA, LK.isP, num, X.ev, vbuild, vbuildOK, vcaps, vcapsOK, hget, hset, hdel, hhas, padd, V.ok, V.get, V.set, V.fget, V.fhas, V.fset, noR, Z.v, Z.sz, dropTo, seval, reduceCtorEq, forall_const])) (by ((try simp only [res, resV, LTP, tup2, tup3, LG, LP, LN, V.ren, renH, hrest, numsF, epk, epochs, Mv.hx, idsOK, bs, wmask, LK.isW, LK.isA, LK.isP, num, X.ev, vbuild, vbuildOK, vcaps, vcapsOK, hget, hset, hdel, hhas, padd, V.ok, V.get, V.set, V.fget, V.fhas, V.fset, noR, Z.v, Z.sz, dropTo, seval, reduceCtorEq, forall_const, Dg.at_zero, Sim_mach, solid_mach, LT, LP, SimL, SimA, Sim, SimH, frzA, frzX, hget, hhas, V.ok, V.get, V.fget, V.fhas, seval, reduceCtorEq, implies_true, dg]); first | done | exact True.intro | (intros; rfl))) (by ((try simp only [Dg.at_zero, Sim_mach, solid_mach, LT, LP, SimL, SimA, Sim, SimH, frzA, frzX, hget, hhas, V.ok, V.get, V.fget, V.fhas, seval, reduceCtorEq, implies_true]); first | done | exact True.intro | (intros; rfl))) ⟨rfl, rfl, rfl⟩

theorem runs_LenN {M : Seat} (ok : OkO M) (w : WS)  : Runs M 72 [.ptr 0 []] [(0, stoV (.nils)), (1, mpV prV Pr.zero w.pres)] 5 (fun r H' k' => r = .int .i64 w.pres.length ∧ H' = [(0, stoV (.nils)), (1, mpV prV Pr.zero w.pres)] ∧ k' = 5) := by
  refine runs_fr ok.k72 rfl fun x hx => ?_
  have hl : ∀ H : Hp, hget H 1 = mpV prV Pr.zero w.pres → hhas H 1 = true → vlen 2 (.map 1) H = ⟨True, .int .i64 w.pres.length, H⟩ := by
    intro H h h'
    rw [vlen_m, h]; simp only [mpV, h']
  refine ex_sound 2000 _ _ _ _ ?_; (simp (maxSteps := 4000000) only [f72, c72, stoV, stp_mkmap, stp_mlook, stp_mupd, vlook_m, vupd_m, vlook_mpV, vupd_mpV, lkR_st, lkR_nt, lkR_sf, lkR_nf, solid_prV, size_prV, agg_prV, ren_prV, get_prV, isAr_prV, veqP_prV, veqV_prV, tpc_prV, tpp_prV, isAr_dg, elemsB_dg, elemsC_dg, elemsB_prV, elemsC_prV, ren_mpPr, hl, LG, LP, LN, V.ren, renH, hrest, numsF, epk, epochs, Mv.hx, idsOK, bs, wmask, LK.isW, LK.isA, LK.isP, num, X.ev, vbuild, vbuildOK, vcaps, vcapsOK, hget, hset, hdel, hhas, padd, V.ok, V.get, V.set, V.fget, V.fhas, V.fset, noR, Z.v, Z.sz, dropTo, seval, reduceCtorEq, forall_const])
  refine RetS.mk hx [0, 1, 2, 3, 4] [] _ _ _ (by decide) (by (simp only [res, resPs, resP, LTP, resV, tup2, tup3, dg, stoV, Sim_prV, SimV_prV, Sim_mpPr, Sim_mp0, NoIm_prV, NoIm_mpPr, LG, LP, LN, V.ren, renH, hrest, numsF, epk, epochs, Mv.hx, idsOK, bs, wmask, LK.isW, LK.isA, LK.isP, num, X.ev, vbuild, vbuildOK, vcaps, vcapsOK, hget, hset, hdel, hhas, padd, V.ok, V.get, V.set, V.fget, V.fhas, V.fset, noR, Z.v, Z.sz, dropTo, seval, reduceCtorEq, forall_const])) (by ((try simp only [res, resV, LTP, tup2, tup3, stoV, Sim_prV, SimV_prV, Sim_mpPr, Sim_mp0, NoIm_prV, NoIm_mpPr, LG, LP, LN, V.ren, renH, hrest, numsF, epk, epochs, Mv.hx, idsOK, bs, wmask, LK.isW, LK.isA, LK.isP, num, X.ev, vbuild, vbuildOK, vcaps, vcapsOK, hget, hset, hdel, hhas, padd, V.ok, V.get, V.set, V.fget, V.fhas, V.fset, noR, Z.v, Z.sz, dropTo, seval, reduceCtorEq, forall_const, Dg.at_zero, Sim_mach, solid_mach, LT, LP, SimL, SimA, Sim, SimH, frzA, frzX, hget, hhas, V.ok, V.get, V.fget, V.fhas, seval, reduceCtorEq, implies_true, dg]); first | done | exact True.intro | (intros; rfl))) (by ((try simp only [stoV, Sim_prV, SimV_prV, Sim_mpPr, Sim_mp0, NoIm_prV, NoIm_mpPr, Dg.at_zero, Sim_mach, solid_mach, LT, LP, SimL, SimA, Sim, SimH, frzA, frzX, hget, hhas, V.ok, V.get, V.fget, V.fhas, seval, reduceCtorEq, implies_true]); first | done | exact True.intro | (intros; rfl))) ⟨rfl, rfl, rfl⟩
theorem runs_LenS {M : Seat} (ok : OkO M) (w : WS) (n : Nat) : Runs M 72 [.ptr 0 []] [(0, stoV (.sl 5 [] 0 n 32)), (1, mpV prV Pr.zero w.pres)] 6 (fun r H' k' => r = .int .i64 w.pres.length ∧ H' = [(0, stoV (.sl 5 [] 0 n 32)), (1, mpV prV Pr.zero w.pres)] ∧ k' = 6) := by
  refine runs_fr ok.k72 rfl fun x hx => ?_
  have hl : ∀ H : Hp, hget H 1 = mpV prV Pr.zero w.pres → hhas H 1 = true → vlen 2 (.map 1) H = ⟨True, .int .i64 w.pres.length, H⟩ := by
    intro H h h'
    rw [vlen_m, h]; simp only [mpV, h']
  refine ex_sound 2000 _ _ _ _ ?_; (simp (maxSteps := 4000000) only [f72, c72, stoV, stp_mkmap, stp_mlook, stp_mupd, vlook_m, vupd_m, vlook_mpV, vupd_mpV, lkR_st, lkR_nt, lkR_sf, lkR_nf, solid_prV, size_prV, agg_prV, ren_prV, get_prV, isAr_prV, veqP_prV, veqV_prV, tpc_prV, tpp_prV, isAr_dg, elemsB_dg, elemsC_dg, elemsB_prV, elemsC_prV, ren_mpPr, hl, LG, LP, LN, V.ren, renH, hrest, numsF, epk, epochs, Mv.hx, idsOK, bs, wmask, LK.isW, LK.isA, LK.isP, num, X.ev, vbuild, vbuildOK, vcaps, vcapsOK, hget, hset, hdel, hhas, padd, V.ok, V.get, V.set, V.fget, V.fhas, V.fset, noR, Z.v, Z.sz, dropTo, seval, reduceCtorEq, forall_const])
  refine RetS.mk hx [0, 1, 2, 3, 4, 5] [] _ _ _ (by decide) (by (simp only [res, resPs, resP, LTP, resV, tup2, tup3, dg, stoV, Sim_prV, SimV_prV, Sim_mpPr, Sim_mp0, NoIm_prV, NoIm_mpPr, LG, LP, LN, V.ren, renH, hrest, numsF, epk, epochs, Mv.hx, idsOK, bs, wmask, LK.isW, LK.isA, LK.isP, num, X.ev, vbuild, vbuildOK, vcaps, vcapsOK, hget, hset, hdel, hhas, padd, V.ok, V.get, V.set, V.fget, V.fhas, V.fset, noR, Z.v, Z.sz, dropTo, seval, reduceCtorEq, forall_const])) (by ((try simp only [res, resV, LTP, tup2, tup3, stoV, Sim_prV, SimV_prV, Sim_mpPr, Sim_mp0, NoIm_prV, NoIm_mpPr, LG, LP, LN, V.ren, renH, hrest, numsF, epk, epochs, Mv.hx, idsOK, bs, wmask, LK.isW, LK.isA, LK.isP, num, X.ev, vbuild, vbuildOK, vcaps, vcapsOK, hget, hset, hdel, hhas, padd, V.ok, V.get, V.set, V.fget, V.fhas, V.fset, noR, Z.v, Z.sz, dropTo, seval, reduceCtorEq, forall_const, Dg.at_zero, Sim_mach, solid_mach, LT, LP, SimL, SimA, Sim, SimH, frzA, frzX, hget, hhas, V.ok, V.get, V.fget, V.fhas, seval, reduceCtorEq, implies_true, dg]); first | done | exact True.intro | (intros; rfl))) (by ((try simp only [stoV, Sim_prV, SimV_prV, Sim_mpPr, Sim_mp0, NoIm_prV, NoIm_mpPr, Dg.at_zero, Sim_mach, solid_mach, LT, LP, SimL, SimA, Sim, SimH, frzA, frzX, hget, hhas, V.ok, V.get, V.fget, V.fhas, seval, reduceCtorEq, implies_true]); first | done | exact True.intro | (intros; rfl))) ⟨rfl, rfl, rfl⟩

/-- A word of eight bytes. -/
def wrd (p : Nat → BitVec 8) : Nat → BitVec 64
  | 0 => 0
  | k + 1 => (wrd p k <<< (8#64).toNat) ||| (p k).setWidth 64

theorem runs_Word {M : Seat} (ok : OkO M) (n : Nat) (hn : 8 ≤ n) (p : Nat → BitVec 8) : Runs M 308 [.lst 1 n (fun j => B (p j))] [] 0 (fun r H' k' => r = W (wrd p 8) ∧ H' = [] ∧ k' = 0) := by
  refine runs_fr ok.k308 rfl fun x hx => ?_
  refine ex_sound 2000 _ _ _ _ ?_; (simp (maxSteps := 4000000) only [f308, c308, stp_mkmap, stp_mlook, stp_mupd, vlook_m, vupd_m, vlook_mpV, vupd_mpV, lkR_st, lkR_nt, lkR_sf, lkR_nf, solid_prV, size_prV, agg_prV, ren_prV, get_prV, isAr_prV, veqP_prV, veqV_prV, tpc_prV, tpp_prV, isAr_dg, elemsB_dg, elemsC_dg, elemsB_prV, elemsC_prV, ren_mpPr, LG, LP, LN, V.ren, renH, hrest, numsF, epk, epochs, Mv.hx, idsOK, bs, wmask, LK.isW, LK.isA, LK.isP, num, X.ev, vbuild, vbuildOK, vcaps, vcapsOK, hget, hset, hdel, hhas, padd, V.ok, V.get, V.set, V.fget, V.fhas, V.fset, noR, Z.v, Z.sz, dropTo, seval, reduceCtorEq, forall_const])
  repeat (refine And.intro (by first | omega | exact True.intro | rfl) ?_)
  refine loop_rule (σ := Nat) (fun i => i ≤ 8) (fun i => fr 20 [(7, .lst 1 8 fun j => B (p j)), (8, .int .i64 8), (9, .int .i64 i), (3, W (wrd p i))]) (fun _ => []) (fun _ => 0) (fun i => 8 - i) 0 (by omega) ?_ ?_
  · refine Weak.fr [] [] hx (by simp only [fr_length]) (by decide) ?_ ?_
    · simp only [wrd, Dg.at_zero, Sim_mach, solid_mach, LT, LP, SimL, SimA, Sim, SimH, frzA, frzX, hget, hhas, V.ok, V.get, V.fget, V.fhas, seval, reduceCtorEq, implies_true]
    · trivial
  · intro i hi
    refine ex_sound 2000 _ _ _ _ ?_
    by_cases h8 : i = 8
    · subst h8
      (simp (maxSteps := 4000000) only [LG, LP, LN, V.ren, renH, hrest, numsF, epk, epochs, Mv.hx, idsOK, bs, wmask, LK.isW, LK.isA, LK.isP, num, X.ev, vbuild, vbuildOK, vcaps, vcapsOK, hget, hset, hdel, hhas, padd, V.ok, V.get, V.set, V.fget, V.fhas, V.fset, noR, Z.v, Z.sz, dropTo, seval, reduceCtorEq, forall_const])
      refine RetS.mk hx [] [] _ _ _ (by decide) (by (simp only [res, resPs, resP, LTP, resV, tup2, tup3, dg, LG, LP, LN, V.ren, renH, hrest, numsF, epk, epochs, Mv.hx, idsOK, bs, wmask, LK.isW, LK.isA, LK.isP, num, X.ev, vbuild, vbuildOK, vcaps, vcapsOK, hget, hset, hdel, hhas, padd, V.ok, V.get, V.set, V.fget, V.fhas, V.fset, noR, Z.v, Z.sz, dropTo, seval, reduceCtorEq, forall_const])) (by ((try simp only [res, resV, LTP, tup2, tup3, LG, LP, LN, V.ren, renH, hrest, numsF, epk, epochs, Mv.hx, idsOK, bs, wmask, LK.isW, LK.isA, LK.isP, num, X.ev, vbuild, vbuildOK, vcaps, vcapsOK, hget, hset, hdel, hhas, padd, V.ok, V.get, V.set, V.fget, V.fhas, V.fset, noR, Z.v, Z.sz, dropTo, seval, reduceCtorEq, forall_const, Dg.at_zero, Sim_mach, solid_mach, LT, LP, SimL, SimA, Sim, SimH, frzA, frzX, hget, hhas, V.ok, V.get, V.fget, V.fhas, seval, reduceCtorEq, implies_true, dg]); first | done | exact True.intro | (intros; rfl))) (by ((try simp only [Dg.at_zero, Sim_mach, solid_mach, LT, LP, SimL, SimA, Sim, SimH, frzA, frzX, hget, hhas, V.ok, V.get, V.fget, V.fhas, seval, reduceCtorEq, implies_true]); first | done | exact True.intro | (intros; rfl))) ⟨rfl, rfl, rfl⟩
    · have d0 : ((i : Int) < 8) = True := eq_true (by omega)
      have w0 : IntKind.i64.wrap ((i : Int) + 1) = ((i + 1 : Nat) : Int) := by rw [wrap_i64 (by omega)]; omega
      (simp (maxSteps := 4000000) only [d0, w0, LG, LP, LN, V.ren, renH, hrest, numsF, epk, epochs, Mv.hx, idsOK, bs, wmask, LK.isW, LK.isA, LK.isP, num, X.ev, vbuild, vbuildOK, vcaps, vcapsOK, hget, hset, hdel, hhas, padd, V.ok, V.get, V.set, V.fget, V.fhas, V.fset, noR, Z.v, Z.sz, dropTo, seval, reduceCtorEq, forall_const])
      repeat (refine And.intro (by first | omega | exact True.intro | rfl) ?_)
      refine ⟨i + 1, by omega, by omega, ?_⟩
      refine Weak.fr [] [] hx (by simp only [fr_length]) (by decide) ?_ ?_
      · simp only [wrd, Dg.at_zero, Sim_mach, solid_mach, LT, LP, SimL, SimA, Sim, SimH, frzA, frzX, hget, hhas, V.ok, V.get, V.fget, V.fhas, seval, reduceCtorEq, implies_true]
      · trivial

/-- Get of what the store has, asked for the first time. -/
theorem runs_GetN {M : Seat} (ok : OkO M) (w : WS) (h : Dg) (p : Pr) (hp : lkp h w.pres = some p) :
    Runs M 328 [.ptr 0 [], dg h] (stoH' w .nils []) 5 (fun r H' k' => r = tup2 (prV p) .nili ∧ H' = stoH' w (.sl 5 [] 0 1 32) [(h, true)] ++ [(5, .ar 32 1 fun _ => dg h)] ∧ k' = 6) := by
  refine runs_fr ok.k328 rfl fun x hx => ?_
  have hn : lkp h ([] : List (Dg × Bool)) = none := rfl
  refine ex_sound 2000 _ _ _ _ ?_; (simp (maxSteps := 4000000) only [f328, c328, stoH', stoV, kinV, seenV, hp, hn, stp_mkmap, stp_mlook, stp_mupd, vlook_m, vupd_m, vlook_mpV, vupd_mpV, lkR_st, lkR_nt, lkR_sf, lkR_nf, solid_prV, size_prV, agg_prV, ren_prV, get_prV, isAr_prV, veqP_prV, veqV_prV, tpc_prV, tpp_prV, isAr_dg, elemsB_dg, elemsC_dg, elemsB_prV, elemsC_prV, ren_mpPr, LG, LP, LN, V.ren, renH, hrest, numsF, epk, epochs, Mv.hx, idsOK, bs, wmask, LK.isW, LK.isA, LK.isP, num, X.ev, vbuild, vbuildOK, vcaps, vcapsOK, hget, hset, hdel, hhas, padd, V.ok, V.get, V.set, V.fget, V.fhas, V.fset, noR, Z.v, Z.sz, dropTo, seval, reduceCtorEq, forall_const])
  have hu : mpV V.bool false (updL h true []) = seenV [(h, true)] := rfl
  rw [hu]
  refine RetS.mk hx [0, 1, 2, 3, 4, 773] [] (tup2 (prV p) .nili) (stoH' w (.sl 5 [] 0 1 32) [(h, true)] ++ [(5, .ar 32 1 fun _ => dg h)]) 6 (by decide) (by simp only [res, resPs, resP, resV, tup2, LTP, stp_mkmap, stp_mlook, stp_mupd, vlook_m, vupd_m, vlook_mpV, vupd_mpV, lkR_st, lkR_nt, lkR_sf, lkR_nf, solid_prV, size_prV, agg_prV, ren_prV, get_prV, isAr_prV, veqP_prV, veqV_prV, tpc_prV, tpp_prV, isAr_dg, elemsB_dg, elemsC_dg, elemsB_prV, elemsC_prV, ren_mpPr, LG, LP, LN, V.ren, renH, hrest, numsF, epk, epochs, Mv.hx, idsOK, bs, wmask, LK.isW, LK.isA, LK.isP, num, X.ev, vbuild, vbuildOK, vcaps, vcapsOK, hget, hset, hdel, hhas, padd, V.ok, V.get, V.set, V.fget, V.fhas, V.fset, noR, Z.v, Z.sz, dropTo, seval, reduceCtorEq, forall_const]) (by simp only [res, resPs, resP, resV, tup2, LTP, stp_mkmap, stp_mlook, stp_mupd, vlook_m, vupd_m, vlook_mpV, vupd_mpV, lkR_st, lkR_nt, lkR_sf, lkR_nf, solid_prV, size_prV, agg_prV, ren_prV, get_prV, isAr_prV, veqP_prV, veqV_prV, tpc_prV, tpp_prV, isAr_dg, elemsB_dg, elemsC_dg, elemsB_prV, elemsC_prV, ren_mpPr, LG, LP, LN, V.ren, renH, hrest, numsF, epk, epochs, Mv.hx, idsOK, bs, wmask, LK.isW, LK.isA, LK.isP, num, X.ev, vbuild, vbuildOK, vcaps, vcapsOK, hget, hset, hdel, hhas, padd, V.ok, V.get, V.set, V.fget, V.fhas, V.fset, noR, Z.v, Z.sz, dropTo, seval, reduceCtorEq, forall_const]; simp only [Sim_prV, SimV_prV, Sim_mpPr, Sim_mp0, NoIm_prV, NoIm_mpPr, Dg.at_zero, Sim_mach, solid_mach, LT, LP, SimL, SimA, Sim, SimH, frzA, frzX, hget, hhas, V.ok, V.get, V.fget, V.fhas, seval, reduceCtorEq, implies_true]) ?_ ⟨rfl, rfl, rfl⟩
  simp only [stoH', List.cons_append, List.nil_append, stoV, kinV, Sim_seen, Sim_prV, SimV_prV, Sim_mpPr, Sim_mp0, NoIm_prV, NoIm_mpPr, Dg.at_zero, Sim_mach, solid_mach, LT, LP, SimL, SimA, Sim, SimH, frzA, frzX, hget, hhas, V.ok, V.get, V.fget, V.fhas, seval, reduceCtorEq, implies_true]
  intro i hi
  obtain rfl : i = 0 := by omega
  rw [if_pos rfl]
  simp only [dg, Dg.at_zero, Sim_mach, solid_mach, LT, LP, SimL, SimA, Sim, SimH, frzA, frzX, hget, hhas, V.ok, V.get, V.fget, V.fhas, seval, reduceCtorEq, implies_true]

/-- A word's bytes behind others. -/
def byW (w : BitVec 64) (j : Nat) : BitVec 8 := (w >>> (56 - 8 * j)).setWidth 8
theorem runs_PutB {M : Seat} (hc : chkF M 312 f312 = true) (w : BitVec 64) :
    Runs M 312 [.sl 0 [] 0 8 1, W w] [(0, .ar 1 8 fun _ => B 0#8)] 1 (fun r H' k' => r = .tup .fnil ∧ H' = [(0, .ar 1 8 fun j => B (if j < 8 then byW w j else 0#8))] ∧ k' = 1) := by
  have h := runs_Put hc 8 0 8 (fun _ => 0) (w.toNat : Int) (by omega) (by omega) (by omega)
  have e : (fun j => V.int .u8 (if 0 ≤ j ∧ j < 0 + 8 then byt (w.toNat : Int) (j - 0) else 0)) = (fun j => B (if j < 8 then byW w j else 0#8)) := by
    funext j
    by_cases hj : j < 8
    · rw [if_pos hj, if_pos (by omega)]; exact byt_B w j
    · rw [if_neg hj, if_neg (by omega)]; rfl
  rw [e] at h
  exact h

theorem runs_AddBN {M : Seat} (okA : OkA M) (ok : OkO M) (w : BitVec 64) :
    Runs M 327 [.nils, W w] [] 0 (fun r H' k' => r = .sl 0 [] 0 8 1 ∧ H' = [(0, .ar 1 8 fun j => B (byW w j))] ∧ k' = 1) := by
  refine runs_fr ok.k327 rfl fun x hx => ?_
  refine ex_sound 2000 _ _ _ _ ?_; (simp (maxSteps := 4000000) only [f327, c327, stp_mkmap, stp_mlook, stp_mupd, vlook_m, vupd_m, vlook_mpV, vupd_mpV, lkR_st, lkR_nt, lkR_sf, lkR_nf, solid_prV, size_prV, agg_prV, ren_prV, get_prV, isAr_prV, veqP_prV, veqV_prV, tpc_prV, tpp_prV, isAr_dg, elemsB_dg, elemsC_dg, elemsB_prV, elemsC_prV, ren_mpPr, LG, LP, LN, V.ren, renH, hrest, numsF, epk, epochs, Mv.hx, idsOK, bs, wmask, LK.isW, LK.isA, LK.isP, num, X.ev, vbuild, vbuildOK, vcaps, vcapsOK, hget, hset, hdel, hhas, padd, V.ok, V.get, V.set, V.fget, V.fhas, V.fset, noR, Z.v, Z.sz, dropTo, seval, reduceCtorEq, forall_const])
  repeat (refine And.intro (by first | omega | exact True.intro | rfl) ?_)
  refine call_mA [16] (runs_PutB okA.k312 w) (by decide) (by rfl) (by ((try simp only [Dg.at_zero, Sim_mach, solid_mach, LT, LP, SimL, SimA, Sim, SimH, frzA, frzX, hget, hhas, V.ok, V.get, V.fget, V.fhas, seval, reduceCtorEq, implies_true]); first | done | exact True.intro | rfl)) (by ((try simp only [Dg.at_zero, Sim_mach, solid_mach, LT, LP, SimL, SimA, Sim, SimH, frzA, frzX, hget, hhas, V.ok, V.get, V.fget, V.fhas, seval, reduceCtorEq, implies_true]); first | done | exact True.intro | rfl)) (by simp only [tup2, tup3, laidH, refm, mach, NoIm, NoIm_W, NoIm_B, NoIm_dg', NoImL, ws, implies_true, and_self]) (by simp only [tup2, tup3, laidH, refm, mach, NoIm, NoIm_W, NoIm_B, NoIm_dg', NoImL, ws, implies_true, and_self]) ?_
  (simp (maxSteps := 4000000) only [LG, LP, LN, V.ren, renH, hrest, numsF, epk, epochs, Mv.hx, idsOK, bs, wmask, LK.isW, LK.isA, LK.isP, num, X.ev, vbuild, vbuildOK, vcaps, vcapsOK, hget, hset, hdel, hhas, padd, V.ok, V.get, V.set, V.fget, V.fhas, V.fset, noR, Z.v, Z.sz, dropTo, seval, reduceCtorEq, forall_const])
  repeat (refine And.intro (by first | omega | exact True.intro | rfl) ?_)
  refine RetS.mk hx [112] [] (.sl 0 [] 0 8 1) ([(0, .ar 1 8 fun j => B (byW w j))]) 1 (by decide) (by (simp only [res, resPs, resP, LTP, resV, tup2, tup3, dg, LG, LP, LN, V.ren, renH, hrest, numsF, epk, epochs, Mv.hx, idsOK, bs, wmask, LK.isW, LK.isA, LK.isP, num, X.ev, vbuild, vbuildOK, vcaps, vcapsOK, hget, hset, hdel, hhas, padd, V.ok, V.get, V.set, V.fget, V.fhas, V.fset, noR, Z.v, Z.sz, dropTo, seval, reduceCtorEq, forall_const])) (by ((try simp only [res, resV, LTP, tup2, tup3, LG, LP, LN, V.ren, renH, hrest, numsF, epk, epochs, Mv.hx, idsOK, bs, wmask, LK.isW, LK.isA, LK.isP, num, X.ev, vbuild, vbuildOK, vcaps, vcapsOK, hget, hset, hdel, hhas, padd, V.ok, V.get, V.set, V.fget, V.fhas, V.fset, noR, Z.v, Z.sz, dropTo, seval, reduceCtorEq, forall_const, Dg.at_zero, Sim_mach, solid_mach, LT, LP, SimL, SimA, Sim, SimH, frzA, frzX, hget, hhas, V.ok, V.get, V.fget, V.fhas, seval, reduceCtorEq, implies_true, dg]); first | done | exact True.intro | (intros; rfl))) ?_ ⟨rfl, rfl, rfl⟩
  simp only [Dg.at_zero, Sim_mach, solid_mach, LT, LP, SimL, SimA, Sim, SimH, frzA, frzX, hget, hhas, V.ok, V.get, V.fget, V.fhas, seval, reduceCtorEq, implies_true]
  intro i hi
  rw [if_pos hi]

theorem runs_AddBS {M : Seat} (okA : OkA M) (ok : OkO M) (n : Nat) (hn : n ≤ 64) (p : Nat → BitVec 8) (w : BitVec 64) :
    Runs M 327 [.sl 0 [] 0 n 1, W w] [(0, .ar 1 n (fun j => B (p j)))] 1 (fun r H' k' => r = .sl 1 [] 0 (n + 8) 1 ∧ H' = [(1, .ar 1 (n + 8) fun j => B (if j < n then p j else byW w (j - n)))] ∧ k' = 2) := by
  refine runs_fr ok.k327 rfl fun x hx => ?_
  refine ex_sound 2000 _ _ _ _ ?_; (simp (maxSteps := 4000000) only [f327, c327, stp_mkmap, stp_mlook, stp_mupd, vlook_m, vupd_m, vlook_mpV, vupd_mpV, lkR_st, lkR_nt, lkR_sf, lkR_nf, solid_prV, size_prV, agg_prV, ren_prV, get_prV, isAr_prV, veqP_prV, veqV_prV, tpc_prV, tpp_prV, isAr_dg, elemsB_dg, elemsC_dg, elemsB_prV, elemsC_prV, ren_mpPr, LG, LP, LN, V.ren, renH, hrest, numsF, epk, epochs, Mv.hx, idsOK, bs, wmask, LK.isW, LK.isA, LK.isP, num, X.ev, vbuild, vbuildOK, vcaps, vcapsOK, hget, hset, hdel, hhas, padd, V.ok, V.get, V.set, V.fget, V.fhas, V.fset, noR, Z.v, Z.sz, dropTo, seval, reduceCtorEq, forall_const])
  repeat (refine And.intro (by first | omega | exact True.intro | rfl) ?_)
  refine call_mA [17] (runs_PutB okA.k312 w) (by decide) (by rfl) (by ((try simp only [Dg.at_zero, Sim_mach, solid_mach, LT, LP, SimL, SimA, Sim, SimH, frzA, frzX, hget, hhas, V.ok, V.get, V.fget, V.fhas, seval, reduceCtorEq, implies_true]); first | done | exact True.intro | rfl)) (by ((try simp only [Dg.at_zero, Sim_mach, solid_mach, LT, LP, SimL, SimA, Sim, SimH, frzA, frzX, hget, hhas, V.ok, V.get, V.fget, V.fhas, seval, reduceCtorEq, implies_true]); first | done | exact True.intro | rfl)) (by simp only [tup2, tup3, laidH, refm, mach, NoIm, NoIm_W, NoIm_B, NoIm_dg', NoImL, ws, implies_true, and_self]) (by simp only [tup2, tup3, laidH, refm, mach, NoIm, NoIm_W, NoIm_B, NoIm_dg', NoImL, ws, implies_true, and_self]) ?_
  (simp (maxSteps := 4000000) only [LG, LP, LN, V.ren, renH, hrest, numsF, epk, epochs, Mv.hx, idsOK, bs, wmask, LK.isW, LK.isA, LK.isP, num, X.ev, vbuild, vbuildOK, vcaps, vcapsOK, hget, hset, hdel, hhas, padd, V.ok, V.get, V.set, V.fget, V.fhas, V.fset, noR, Z.v, Z.sz, dropTo, seval, reduceCtorEq, forall_const])
  repeat (refine And.intro (by first | omega | exact True.intro | rfl) ?_)
  refine RetS.mk hx [0, 113] [] (.sl 1 [] 0 (n + 8) 1) ([(1, .ar 1 (n + 8) fun j => B (if j < n then p j else byW w (j - n)))]) 2 (by decide) (by (simp only [res, resPs, resP, LTP, resV, tup2, tup3, dg, LG, LP, LN, V.ren, renH, hrest, numsF, epk, epochs, Mv.hx, idsOK, bs, wmask, LK.isW, LK.isA, LK.isP, num, X.ev, vbuild, vbuildOK, vcaps, vcapsOK, hget, hset, hdel, hhas, padd, V.ok, V.get, V.set, V.fget, V.fhas, V.fset, noR, Z.v, Z.sz, dropTo, seval, reduceCtorEq, forall_const])) (by ((try simp only [res, resV, LTP, tup2, tup3, LG, LP, LN, V.ren, renH, hrest, numsF, epk, epochs, Mv.hx, idsOK, bs, wmask, LK.isW, LK.isA, LK.isP, num, X.ev, vbuild, vbuildOK, vcaps, vcapsOK, hget, hset, hdel, hhas, padd, V.ok, V.get, V.set, V.fget, V.fhas, V.fset, noR, Z.v, Z.sz, dropTo, seval, reduceCtorEq, forall_const, Dg.at_zero, Sim_mach, solid_mach, LT, LP, SimL, SimA, Sim, SimH, frzA, frzX, hget, hhas, V.ok, V.get, V.fget, V.fhas, seval, reduceCtorEq, implies_true, dg]); first | done | exact True.intro | (intros; rfl))) ?_ ⟨rfl, rfl, rfl⟩
  simp only [Dg.at_zero, Sim_mach, solid_mach, LT, LP, SimL, SimA, Sim, SimH, frzA, frzX, hget, hhas, V.ok, V.get, V.fget, V.fhas, seval, reduceCtorEq, implies_true]
  intro i hi
  by_cases h : i < n
  · rw [if_pos h, if_pos h]; simp only [B, Dg.at_zero, Sim_mach, solid_mach, LT, LP, SimL, SimA, Sim, SimH, frzA, frzX, hget, hhas, V.ok, V.get, V.fget, V.fhas, seval, reduceCtorEq, implies_true]
  · rw [if_neg h, if_neg h, if_pos (by omega)]; simp only [B, Dg.at_zero, Sim_mach, solid_mach, LT, LP, SimL, SimA, Sim, SimH, frzA, frzX, hget, hhas, V.ok, V.get, V.fget, V.fhas, seval, reduceCtorEq, implies_true]
end Mv
