/- Words and their bytes. -/
import Derived.Test.YtfoaeafobdamcaaDoorMwWb
import Derived.Test.YtfoaeafobdamcaaDoorMwWd
import Derived.Test.YtfoaeafobdamcaaDoorMwM
set_option linter.unusedSimpArgs false
set_option linter.unusedVariables false
namespace Mv
open Go

theorem join8 (v : BitVec 64) : ((v >>> 8) <<< 8) ||| (v.setWidth 8).setWidth 64 = v := by
  apply BitVec.eq_of_getLsbD_eq
  intro i hi
  simp only [BitVec.getLsbD_or, BitVec.getLsbD_shiftLeft, BitVec.getLsbD_ushiftRight, BitVec.getLsbD_setWidth]
  by_cases h : i < 8
  · simp [h, hi]
  · have e : 8 + (i - 8) = i := by omega
    simp [h, hi, e]
theorem wrd_shift (w : BitVec 64) : ∀ k, k ≤ 8 → wrd (byW w) k = w >>> (64 - 8 * k)
  | 0, _ => by
    apply BitVec.eq_of_getLsbD_eq
    intro i hi
    simp [wrd]
  | k + 1, h => by
    have e : 64 - 8 * k = (56 - 8 * k) + 8 := by omega
    have e2 : 64 - 8 * (k + 1) = 56 - 8 * k := by omega
    have e3 : (8#64).toNat = 8 := rfl
    rw [wrd, wrd_shift w k (by omega), e, e2, e3, BitVec.shiftRight_add, byW, join8]
theorem wrd_byW (w : BitVec 64) : wrd (byW w) 8 = w := by
  rw [wrd_shift w 8 (by omega)]; simp
theorem wrd_bit (p : Nat → BitVec 8) : ∀ n j, j < 64 → (wrd p n).getLsbD j = (decide (j < 8 * n) && (p (n - 1 - j / 8)).getLsbD (j % 8))
  | 0, j, _ => by simp [wrd]
  | n + 1, j, h => by
    have e3 : (8#64).toNat = 8 := rfl
    rw [wrd, e3]
    simp only [BitVec.getLsbD_or, BitVec.getLsbD_shiftLeft, BitVec.getLsbD_setWidth, h, decide_true, Bool.true_and]
    by_cases h8 : j < 8
    · have q1 : j / 8 = 0 := by omega
      have q2 : j % 8 = j := by omega
      have q3 : j < 8 * (n + 1) := by omega
      simp [h8, q1, q2, q3]
    · have q1 : (j - 8) / 8 = j / 8 - 1 := by omega
      have q2 : (j - 8) % 8 = j % 8 := by omega
      have q3 : n - 1 - (j / 8 - 1) = n + 1 - 1 - j / 8 := by omega
      have q4 : (j - 8 < 8 * n) = (j < 8 * (n + 1)) := by apply propext; omega
      have q5 : (p n).getLsbD j = false := BitVec.getLsbD_of_ge _ _ (by omega)
      rw [wrd_bit p n (j - 8) (by omega), q1, q2, q3, q5]
      simp [h8, q4]
theorem byW_wrd (p : Nat → BitVec 8) (k : Nat) (hk : k < 8) : byW (wrd p 8) k = p k := by
  apply BitVec.eq_of_getLsbD_eq
  intro i hi
  have q1 : (56 - 8 * k + i) / 8 = 7 - k := by omega
  have q2 : (56 - 8 * k + i) % 8 = i := by omega
  have q3 : 8 - 1 - (7 - k) = k := by omega
  have q4 : 56 - 8 * k + i < 8 * 8 := by omega
  rw [byW, BitVec.getLsbD_setWidth, BitVec.getLsbD_ushiftRight, wrd_bit p 8 _ (by omega), q1, q2, q3]
  simp [hi, q4]
/-- The bytes of the words of bytes. -/
theorem byWs_wrd (p : Nat → BitVec 8) (j : Nat) : byWs (fun q => wrd (fun i => p (8 * q + i)) 8) j = p j := by
  rw [byWs, byW_wrd _ _ (by omega)]
  congr 1; omega
end Mv
namespace Mv
open Go
set_option maxRecDepth 20000
set_option maxHeartbeats 4000000
set_option linter.unusedSimpArgs false

theorem runs_Run3 {M : Seat} (ok : OkV M) (s s' : WS) (D : Dg) (f f1 f2 g : Nat → BitVec 64) (p0 p1 p2 xt xt' : BitVec 64)
    (h0 : Runs M 70 [.ptr 5 [], .ptr 0 []] (stoH' s .nils [] ++ [(5, mach f g p0 false xt)]) 6 (fun r H' k' => r = .nili ∧ H' = stoH' s' .nils [] ++ [(5, mach f1 g p1 false xt)] ∧ k' = 6))
    (h1 : Runs M 70 [.ptr 5 [], .ptr 0 []] (stoH' s' .nils [] ++ [(5, mach f1 g p1 false xt)]) 6 (fun r H' k' => r = .nili ∧ H' = stoH' s' (.sl 6 [] 0 1 32) [(D, true)] ++ [(5, mach f2 g p2 false xt), (6, .ar 32 1 fun _ => dg D)] ∧ k' = 7))
    (h2 : Runs M 70 [.ptr 0 [], .ptr 1 []] [(0, mach f2 g p2 false xt)] 2 (fun r H' k' => r = .nili ∧ H' = [(0, mach f2 g p2 true xt')] ∧ k' = 2)) :
    Runs M 71 [.ptr 5 [], .ptr 0 [], .int .i64 9] (stoH' s .nils [] ++ [(5, mach f g p0 false xt)]) 6
      (fun r H' k' => r = tup2 (.int .i64 3) .nili ∧ H' = stoH' s' (.sl 6 [] 0 1 32) [(D, true)] ++ [(5, mach f2 g p2 true xt'), (6, .ar 32 1 fun _ => dg D)] ∧ k' = 7) := by
  refine runs_fr ok.k71 rfl fun x hx => ?_
  have w1 : IntKind.i64.wrap 1 = 1 := by decide
  have w2 : IntKind.i64.wrap 2 = 2 := by decide
  have w3 : IntKind.i64.wrap 3 = 3 := by decide
  refine ex_sound 2000 _ _ _ _ ?_; (simp (maxSteps := 4000000) only [f71, c71, mach, stoH', stoV, kinV, List.cons_append, List.nil_append, LG, LP, LN, V.ren, renH, hrest, numsF, epk, epochs, Mv.hx, idsOK, bs, wmask, LK.isW, LK.isA, LK.isP, num, X.ev, vbuild, vbuildOK, vcaps, vcapsOK, hget, hset, hdel, hhas, padd, V.ok, V.get, V.set, V.fget, V.fhas, V.fset, noR, Z.v, Z.sz, dropTo, seval, reduceCtorEq, forall_const])
  refine loop_once ?_
  refine ex_sound 2000 _ _ _ _ ?_
  (simp (maxSteps := 4000000) only [LG, LP, LN, V.ren, renH, hrest, numsF, epk, epochs, Mv.hx, idsOK, bs, wmask, LK.isW, LK.isA, LK.isP, num, X.ev, vbuild, vbuildOK, vcaps, vcapsOK, hget, hset, hdel, hhas, padd, V.ok, V.get, V.set, V.fget, V.fhas, V.fset, noR, Z.v, Z.sz, dropTo, seval, reduceCtorEq, forall_const])
  refine call_mA [0, 1, 2, 3, 4, 5] (h0) (by decide) (by rfl) (by ((try simp only [stoH', stoV, kinV, mach, Sim_seen, NoIm_seen, Sim_prV, SimV_prV, Sim_mpPr, Sim_mp0, NoIm_prV, NoIm_mpPr, List.cons_append, List.nil_append, Dg.at_zero, Sim_mach, solid_mach, LT, LP, SimL, SimA, Sim, SimH, frzA, frzX, hget, hhas, V.ok, V.get, V.fget, V.fhas, seval, reduceCtorEq, implies_true]); first | done | exact True.intro | rfl)) (by ((try simp only [stoH', stoV, kinV, mach, Sim_seen, NoIm_seen, Sim_prV, SimV_prV, Sim_mpPr, Sim_mp0, NoIm_prV, NoIm_mpPr, List.cons_append, List.nil_append, Dg.at_zero, Sim_mach, solid_mach, LT, LP, SimL, SimA, Sim, SimH, frzA, frzX, hget, hhas, V.ok, V.get, V.fget, V.fhas, seval, reduceCtorEq, implies_true]); first | done | exact True.intro | rfl)) (by simp only [stoH', stoV, kinV, mach, Sim_seen, NoIm_seen, Sim_prV, SimV_prV, Sim_mpPr, Sim_mp0, NoIm_prV, NoIm_mpPr, List.cons_append, List.nil_append, tup2, tup3, laidH, refm, mach, NoIm, NoIm_W, NoIm_B, NoIm_dg', NoImL, ws, implies_true, and_self]) (by simp only [stoH', stoV, kinV, mach, Sim_seen, NoIm_seen, Sim_prV, SimV_prV, Sim_mpPr, Sim_mp0, NoIm_prV, NoIm_mpPr, List.cons_append, List.nil_append, tup2, tup3, laidH, refm, mach, NoIm, NoIm_W, NoIm_B, NoIm_dg', NoImL, ws, implies_true, and_self]) ?_
  (simp (maxSteps := 4000000) only [stoH', stoV, kinV, mach, ren_seen, stp_mkmap, stp_mlook, stp_mupd, vlook_m, vupd_m, vlook_mpV, vupd_mpV, lkR_st, lkR_nt, lkR_sf, lkR_nf, solid_prV, size_prV, agg_prV, ren_prV, get_prV, isAr_prV, veqP_prV, veqV_prV, tpc_prV, tpp_prV, isAr_dg, elemsB_dg, elemsC_dg, elemsB_prV, elemsC_prV, ren_mpPr, w1, List.cons_append, List.nil_append, LG, LP, LN, V.ren, renH, hrest, numsF, epk, epochs, Mv.hx, idsOK, bs, wmask, LK.isW, LK.isA, LK.isP, num, X.ev, vbuild, vbuildOK, vcaps, vcapsOK, hget, hset, hdel, hhas, padd, V.ok, V.get, V.set, V.fget, V.fhas, V.fset, noR, Z.v, Z.sz, dropTo, seval, reduceCtorEq, forall_const])
  refine loop_once ?_
  refine ex_sound 2000 _ _ _ _ ?_
  (simp (maxSteps := 4000000) only [LG, LP, LN, V.ren, renH, hrest, numsF, epk, epochs, Mv.hx, idsOK, bs, wmask, LK.isW, LK.isA, LK.isP, num, X.ev, vbuild, vbuildOK, vcaps, vcapsOK, hget, hset, hdel, hhas, padd, V.ok, V.get, V.set, V.fget, V.fhas, V.fset, noR, Z.v, Z.sz, dropTo, seval, reduceCtorEq, forall_const])
  refine call_mA [0, 1, 2, 3, 4, 5] (h1) (by decide) (by rfl) (by ((try simp only [stoH', stoV, kinV, mach, Sim_seen, NoIm_seen, dg, Sim_prV, SimV_prV, Sim_mpPr, Sim_mp0, NoIm_prV, NoIm_mpPr, List.cons_append, List.nil_append, Dg.at_zero, Sim_mach, solid_mach, LT, LP, SimL, SimA, Sim, SimH, frzA, frzX, hget, hhas, V.ok, V.get, V.fget, V.fhas, seval, reduceCtorEq, implies_true]); first | done | exact True.intro | rfl)) (by ((try simp only [stoH', stoV, kinV, mach, Sim_seen, NoIm_seen, dg, Sim_prV, SimV_prV, Sim_mpPr, Sim_mp0, NoIm_prV, NoIm_mpPr, List.cons_append, List.nil_append, Dg.at_zero, Sim_mach, solid_mach, LT, LP, SimL, SimA, Sim, SimH, frzA, frzX, hget, hhas, V.ok, V.get, V.fget, V.fhas, seval, reduceCtorEq, implies_true]); first | done | exact True.intro | rfl)) (by simp only [stoH', stoV, kinV, mach, Sim_seen, NoIm_seen, dg, Sim_prV, SimV_prV, Sim_mpPr, Sim_mp0, NoIm_prV, NoIm_mpPr, List.cons_append, List.nil_append, tup2, tup3, laidH, refm, mach, NoIm, NoIm_W, NoIm_B, NoIm_dg', NoImL, ws, implies_true, and_self]) (by simp only [stoH', stoV, kinV, mach, Sim_seen, NoIm_seen, dg, Sim_prV, SimV_prV, Sim_mpPr, Sim_mp0, NoIm_prV, NoIm_mpPr, List.cons_append, List.nil_append, tup2, tup3, laidH, refm, mach, NoIm, NoIm_W, NoIm_B, NoIm_dg', NoImL, ws, implies_true, and_self]) ?_
  (simp (maxSteps := 4000000) only [stoH', stoV, kinV, mach, ren_seen, stp_mkmap, stp_mlook, stp_mupd, vlook_m, vupd_m, vlook_mpV, vupd_mpV, lkR_st, lkR_nt, lkR_sf, lkR_nf, solid_prV, size_prV, agg_prV, ren_prV, get_prV, isAr_prV, veqP_prV, veqV_prV, tpc_prV, tpp_prV, isAr_dg, elemsB_dg, elemsC_dg, elemsB_prV, elemsC_prV, ren_mpPr, w2, List.cons_append, List.nil_append, LG, LP, LN, V.ren, renH, hrest, numsF, epk, epochs, Mv.hx, idsOK, bs, wmask, LK.isW, LK.isA, LK.isP, num, X.ev, vbuild, vbuildOK, vcaps, vcapsOK, hget, hset, hdel, hhas, padd, V.ok, V.get, V.set, V.fget, V.fhas, V.fset, noR, Z.v, Z.sz, dropTo, seval, reduceCtorEq, forall_const])
  refine loop_once ?_
  refine ex_sound 2000 _ _ _ _ ?_
  (simp (maxSteps := 4000000) only [LG, LP, LN, V.ren, renH, hrest, numsF, epk, epochs, Mv.hx, idsOK, bs, wmask, LK.isW, LK.isA, LK.isP, num, X.ev, vbuild, vbuildOK, vcaps, vcapsOK, hget, hset, hdel, hhas, padd, V.ok, V.get, V.set, V.fget, V.fhas, V.fset, noR, Z.v, Z.sz, dropTo, seval, reduceCtorEq, forall_const])
  refine call_mB [5, 0] [5] (h2) (by rfl) (by rfl) (by decide) (by rfl) (by rfl) (by ((try simp only [mach, Dg.at_zero, Sim_mach, solid_mach, LT, LP, SimL, SimA, Sim, SimH, frzA, frzX, hget, hhas, V.ok, V.get, V.fget, V.fhas, seval, reduceCtorEq, implies_true]); first | done | exact True.intro | rfl)) (by ((try simp only [mach, Dg.at_zero, Sim_mach, solid_mach, LT, LP, SimL, SimA, Sim, SimH, frzA, frzX, hget, hhas, V.ok, V.get, V.fget, V.fhas, seval, reduceCtorEq, implies_true]); first | done | exact True.intro | rfl)) (by simp only [mach, tup2, tup3, laidH, refm, mach, NoIm, NoIm_W, NoIm_B, NoIm_dg', NoImL, ws, implies_true, and_self]) (by simp only [mach, tup2, tup3, laidH, refm, mach, NoIm, NoIm_W, NoIm_B, NoIm_dg', NoImL, ws, implies_true, and_self]) ?_
  (simp (maxSteps := 4000000) only [mach, w3, LG, LP, LN, V.ren, renH, hrest, numsF, epk, epochs, Mv.hx, idsOK, bs, wmask, LK.isW, LK.isA, LK.isP, num, X.ev, vbuild, vbuildOK, vcaps, vcapsOK, hget, hset, hdel, hhas, padd, V.ok, V.get, V.set, V.fget, V.fhas, V.fset, noR, Z.v, Z.sz, dropTo, seval, reduceCtorEq, forall_const])
  refine loop_once ?_
  refine ex_sound 2000 _ _ _ _ ?_
  (simp (maxSteps := 4000000) only [LG, LP, LN, V.ren, renH, hrest, numsF, epk, epochs, Mv.hx, idsOK, bs, wmask, LK.isW, LK.isA, LK.isP, num, X.ev, vbuild, vbuildOK, vcaps, vcapsOK, hget, hset, hdel, hhas, padd, V.ok, V.get, V.set, V.fget, V.fhas, V.fset, noR, Z.v, Z.sz, dropTo, seval, reduceCtorEq, forall_const])
  refine RetS.mk hx [0, 1, 2, 3, 4, 5, 662] [] _ _ _ (by decide) (by (simp only [res, resPs, resP, LTP, resV, tup2, tup3, dg, Sim_seen, dg, Sim_prV, SimV_prV, Sim_mpPr, Sim_mp0, NoIm_prV, NoIm_mpPr, LG, LP, LN, V.ren, renH, hrest, numsF, epk, epochs, Mv.hx, idsOK, bs, wmask, LK.isW, LK.isA, LK.isP, num, X.ev, vbuild, vbuildOK, vcaps, vcapsOK, hget, hset, hdel, hhas, padd, V.ok, V.get, V.set, V.fget, V.fhas, V.fset, noR, Z.v, Z.sz, dropTo, seval, reduceCtorEq, forall_const])) (by ((try simp only [res, resV, LTP, tup2, tup3, Sim_seen, dg, Sim_prV, SimV_prV, Sim_mpPr, Sim_mp0, NoIm_prV, NoIm_mpPr, LG, LP, LN, V.ren, renH, hrest, numsF, epk, epochs, Mv.hx, idsOK, bs, wmask, LK.isW, LK.isA, LK.isP, num, X.ev, vbuild, vbuildOK, vcaps, vcapsOK, hget, hset, hdel, hhas, padd, V.ok, V.get, V.set, V.fget, V.fhas, V.fset, noR, Z.v, Z.sz, dropTo, seval, reduceCtorEq, forall_const, Dg.at_zero, Sim_mach, solid_mach, LT, LP, SimL, SimA, Sim, SimH, frzA, frzX, hget, hhas, V.ok, V.get, V.fget, V.fhas, seval, reduceCtorEq, implies_true, dg]); first | done | exact True.intro | (intros; rfl))) (by ((try simp only [Sim_seen, dg, Sim_prV, SimV_prV, Sim_mpPr, Sim_mp0, NoIm_prV, NoIm_mpPr, Dg.at_zero, Sim_mach, solid_mach, LT, LP, SimL, SimA, Sim, SimH, frzA, frzX, hget, hhas, V.ok, V.get, V.fget, V.fhas, seval, reduceCtorEq, implies_true]); first | done | exact True.intro | (intros; rfl))) ⟨rfl, rfl, rfl⟩
end Mv
namespace Mv
open Go
theorem lkp_updL {α : Type} (k : Dg) (x : α) : ∀ l : List (Dg × α), lkp k (updL k x l) = some x
  | [] => by simp [updL, lkp]
  | (h, y) :: r => by
    by_cases e : k = h
    · simp [updL, lkp, e]
    · have := lkp_updL k x r
      simp [updL, lkp, e, this]
end Mv
namespace Mv
open Go
set_option maxRecDepth 20000
set_option maxHeartbeats 4000000
set_option linter.unusedSimpArgs false

theorem wrd_congr (p q : Nat → BitVec 8) : ∀ k, (∀ i, i < k → p i = q i) → wrd p k = wrd q k
  | 0, _ => rfl
  | k + 1, h => by rw [wrd, wrd, wrd_congr p q k (fun i hi => h i (by omega)), h k (by omega)]
theorem add_len (s : WS) (p : Pr) : (s.add p).pres.length ≤ s.pres.length + 1 := by
  rw [WS.add, kin_pres]
  show (updL _ _ s.pres).length ≤ _
  rw [updL_len]
  split
  · exact Nat.le_succ _
  · exact Nat.le_refl _
theorem wNew_len : ∀ n, (wNew n).pres.length ≤ n
  | 0 => Nat.le_refl _
  | n + 1 => Nat.le_trans (add_len _ _) (Nat.succ_le_succ (wNew_len n))
theorem add_lkp (s : WS) (p : Pr) : lkp (sum64 p.at) (s.add p).pres = some p := by
  rw [WS.add, kin_pres]
  exact lkp_updL _ _ _

def orG (A : BitVec 64) (vs u : Nat → BitVec 64) (j : Nat) : BitVec 64 := if A.toNat ≤ j ∧ j < A.toNat + 8 then vs (j - A.toNat) else memW 3 u j
def orR (A D C : BitVec 64) (j : Nat) : BitVec 64 := if j = 3 then C else if j = 2 then D else if j = 1 then A else 0#64

theorem oracle_run {M : Seat} (okA : OkA M) (ok : OkO M) (s : WS) (vs u : Nat → BitVec 64) (A D C : BitVec 64)
    (bA : 10 ≤ A.toNat ∧ A.toNat < 8184) (bD : 10 ≤ D.toNat ∧ D.toNat < 8188) (bC : 10 ≤ C.toNat ∧ C.toNat < 8184)
    (hd : D.toNat + 4 ≤ A.toNat ∨ A.toNat + 8 ≤ D.toNat)
    (u0 : u 0 = rcW (34 : Nat) 0 1 2 0 0) (u1 : u 1 = rcW (35 : Nat) 0 2 3 0 0) (u2 : u 2 = rcW (0 : Nat) 0 0 0 0 0) :
    ∃ (s' : WS) (d : Dg) (F : Nat → BitVec 64), s'.pres.length ≤ s.pres.length + 1 ∧ (∀ i, i < 8 → F (C.toNat + i) = vs i) ∧
      Runs M 71 [.ptr 5 [], .ptr 0 [], .int .i64 9] (stoH' s .nils [] ++ [(5, mach (orG A vs u) (orR A D C) 0#64 false 0#64)]) 6
        (fun r H' k' => r = tup2 (.int .i64 3) .nili ∧ H' = stoH' s' (.sl 6 [] 0 1 32) [(d, true)] ++ [(5, mach F (orR A D C) 2#64 true 0#64), (6, .ar 32 1 fun _ => dg d)] ∧ k' = 7) := by
  have g0 : orG A vs u (0#64).toNat = rcW (34 : Nat) 0 1 2 0 0 := by
    show orG A vs u 0 = _
    rw [orG, if_neg (by omega)]; exact u0
  have g1 : orG A vs u 1 = rcW (35 : Nat) 0 2 3 0 0 := by
    rw [orG, if_neg (by omega)]; exact u1
  have g2 : orG A vs u 2 = rcW (0 : Nat) 0 0 0 0 0 := by
    rw [orG, if_neg (by omega)]; exact u2
  have gA : ∀ i, i < 8 → orG A vs u (A.toNat + i) = vs i := fun i hi => by
    rw [orG, if_pos (by omega)]; congr 1; omega
  have r0 : orR A D C 0 = 0#64 := rfl
  have r1 : orR A D C 1 = A := rfl
  have r2 : orR A D C 2 = D := rfl
  have r3 : orR A D C 3 = C := rfl
  have e0a : pF (rcW (34 : Nat) 0 1 2 0 0) 48 = 1 := rcW_a 34 0 1 2 0 (by omega) (by omega) (by omega) (by omega) (by omega) 0
  have e0b : pF (rcW (34 : Nat) 0 1 2 0 0) 44 = 2 := rcW_b 34 0 1 2 0 (by omega) (by omega) (by omega) (by omega) (by omega) 0
  have e1a : pF (rcW (35 : Nat) 0 2 3 0 0) 48 = 2 := rcW_a 35 0 2 3 0 (by omega) (by omega) (by omega) (by omega) (by omega) 0
  have e1b : pF (rcW (35 : Nat) 0 2 3 0 0) 44 = 3 := rcW_b 35 0 2 3 0 (by omega) (by omega) (by omega) (by omega) (by omega) 0
  have e2a : pF (rcW (0 : Nat) 0 0 0 0 0) 48 = 0 := rcW_a 0 0 0 0 0 (by omega) (by omega) (by omega) (by omega) (by omega) 0
  have h0 := runs_StepHash okA ok s [] (orG A vs u) (orR A D C) 0#64 0#64 (by decide) (rcW (34 : Nat) 0 1 2 0 0) g0
    (rcW_op 34 0 1 2 0 (by omega) (by omega) (by omega) (by omega) (by omega) 0) (rcW_z 34 0 1 2 0 (by omega) (by omega) (by omega) (by omega) (by omega) 0)
    (by rw [e0a, r1]; omega) (by rw [e0b, r2]; omega)
  simp only [e0a, e0b, r1, r2] at h0
  have z1 : 0#64 + 1#64 = 1#64 := by decide
  have z2 : 1#64 + 1#64 = 2#64 := by decide
  rw [z1] at h0
  obtain ⟨p, hp⟩ : ∃ p, p = Pr.mk' (byWs fun j => orG A vs u (A.toNat + j)) := ⟨_, rfl⟩
  rw [← hp] at h0
  have hl := add_lkp s p
  obtain ⟨d, hdd⟩ : ∃ d, d = sum64 p.at := ⟨_, rfl⟩
  rw [← hdd] at h0 hl
  obtain ⟨F1, hF1⟩ : ∃ F1 : Nat → BitVec 64, F1 = fun j => if D.toNat ≤ j ∧ j < D.toNat + 4 then wrd (fun i => d.at (8 * (j - D.toNat) + i)) 8 else orG A vs u j := ⟨_, rfl⟩
  rw [← hF1] at h0
  have f1 : F1 (1#64).toNat = rcW (35 : Nat) 0 2 3 0 0 := by
    show F1 1 = _
    rw [hF1]; show (if _ then _ else _) = _
    rw [if_neg (by omega)]; exact g1
  have f2 : F1 2 = rcW (0 : Nat) 0 0 0 0 0 := by
    rw [hF1]; show (if _ then _ else _) = _
    rw [if_neg (by omega)]; exact g2
  have hD : Dg.mk' (byWs fun j => F1 (D.toNat + j)) = d := by
    apply Dg.ext'
    intro j hj
    rw [Dg.at_mk' _ _ hj, ← byWs_wrd d.at j, byWs, byWs]
    congr 1
    rw [hF1]; show (if _ then _ else _) = _
    rw [if_pos (by omega)]
    congr 1; funext i; congr 1; omega
  have h1 := runs_StepPre okA ok (s.add p) p F1 (orR A D C) 1#64 0#64 (by decide) (rcW (35 : Nat) 0 2 3 0 0) f1
    (rcW_op 35 0 2 3 0 (by omega) (by omega) (by omega) (by omega) (by omega) 0) (rcW_z 35 0 2 3 0 (by omega) (by omega) (by omega) (by omega) (by omega) 0)
    (by rw [e1a, r2]; omega) (by rw [e1b, r3]; omega) d (by rw [e1a, r2]; exact hD) hl
  simp only [e1b, r3] at h1
  rw [z2] at h1
  obtain ⟨F2, hF2⟩ : ∃ F2 : Nat → BitVec 64, F2 = fun j => if C.toNat ≤ j ∧ j < C.toNat + 8 then wrd (fun i => p.at (8 * (j - C.toNat) + i)) 8 else F1 j := ⟨_, rfl⟩
  rw [← hF2] at h1
  have f3 : F2 (2#64).toNat = rcW (0 : Nat) 0 0 0 0 0 := by
    show F2 2 = _
    rw [hF2]; show (if _ then _ else _) = _
    rw [if_neg (by omega)]; exact f2
  have h2 := runs_StepHalt ok.toOkV F2 (orR A D C) 2#64 0#64 (by decide) (rcW (0 : Nat) 0 0 0 0 0) f3
    (rcW_op 0 0 0 0 0 (by omega) (by omega) (by omega) (by omega) (by omega) 0) (rcW_z 0 0 0 0 0 (by omega) (by omega) (by omega) (by omega) (by omega) 0)
  rw [e2a, r0] at h2
  refine ⟨s.add p, d, F2, add_len s p, fun i hi => ?_, runs_Run3 ok.toOkV s (s.add p) d _ F1 F2 _ 0#64 1#64 2#64 0#64 0#64 h0 h1 h2⟩
  rw [hF2]; show (if _ then _ else _) = _
  rw [if_pos (by omega), show C.toNat + i - C.toNat = i from by omega, hp]
  rw [wrd_congr _ (byW (vs i)) 8 (fun j hj => ?_), wrd_byW]
  rw [Pr.at_mk' _ _ (by omega), byWs, show (8 * i + j) / 8 = i from by omega, show (8 * i + j) % 8 = j from by omega, gA i hi]
end Mv
