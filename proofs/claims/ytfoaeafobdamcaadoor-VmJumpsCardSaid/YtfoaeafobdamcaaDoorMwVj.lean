/- VmStores. -/
import Derived.Test.YtfoaeafobdamcaaDoorMwVi
set_option linter.unusedSimpArgs false
set_option linter.unusedVariables false
namespace Mv
open Go
set_option maxRecDepth 20000
set_option maxHeartbeats 4000000
set_option linter.unusedSimpArgs false

structure OkVS (M : Seat) : Prop extends OkW M where
  k7 : chkF M 7 f7 = true

/-- n, cut to 32 bits. -/
def i32 (n : Int) : Int := if n % 4294967296 ≥ 2147483648 then n % 4294967296 - 4294967296 else n % 4294967296
theorem i32_wrap (n : Int) : IntKind.i32.wrap n = i32 n := by simp [i32, IntKind.wrap, IntKind.bits, IntKind.signed]
theorem i32_in (n : Int) : -2147483648 ≤ i32 n ∧ i32 n < 2147483648 := by unfold i32; split <;> omega
theorem i32_i64 (n : Int) : IntKind.i64.wrap (i32 n) = i32 n := by have := i32_in n; rw [wrap_i64 (by omega)]

theorem ofInt_small (q : Nat) (hq : q < 100) : (BitVec.ofInt 64 (q : Int)).toNat = q := by
  rw [ofInt_n, BitVec.toNat_ofNat, Nat.mod_eq_of_lt (by omega)]
theorem mulAdd (x y : BitVec 64) (m : Nat) (k q : Nat) (hm : (BitVec.ofNat 64 m).toNat = m) (hx : x.toNat = k) (hy : y.toNat = q) (h : k * m + q < 18446744073709551616) : (x * BitVec.ofNat 64 m + y).toNat = k * m + q := by
  rw [BitVec.toNat_add, BitVec.toNat_mul, hx, hy, hm, Nat.mod_eq_of_lt (a := k * m) (by omega), Nat.mod_eq_of_lt h]
theorem and32 (n : Int) : (BitVec.ofInt 64 n &&& 4294967295#64).toNat = (n % 4294967296).toNat := by
  have e : (4294967295#64).toNat = 2 ^ 32 - 1 := by decide
  rw [BitVec.toNat_and, e, Nat.and_two_pow_sub_one_eq_mod, BitVec.toNat_ofInt]
  omega
theorem rcW_nat (op d a b c : Nat) (ho : op ≤ 35) (hd : d < 16) (ha : a < 16) (hb : b < 16) (hc : c < 16) (n : Int) :
    (rcW op d a b c n).toNat = ((((op * 16 + d) * 16 + a) * 16 + b) * 16 + c) * 1099511627776 + (n % 4294967296).toNat := by
  have e3 : (n % 4294967296).toNat < 4294967296 := by omega
  have h16 : (BitVec.ofNat 64 16).toNat = 16 := by decide
  have h40 : (BitVec.ofNat 64 1099511627776).toNat = 1099511627776 := by decide
  have s1 := mulAdd _ _ 16 op d h16 (ofInt_small op (by omega)) (ofInt_small d (by omega)) (by omega)
  have s2 := mulAdd _ _ 16 _ a h16 s1 (ofInt_small a (by omega)) (by omega)
  have s3 := mulAdd _ _ 16 _ b h16 s2 (ofInt_small b (by omega)) (by omega)
  have s4 := mulAdd _ _ 16 _ c h16 s3 (ofInt_small c (by omega)) (by omega)
  exact mulAdd _ _ 1099511627776 _ _ h40 s4 (and32 n) (by omega)
theorem rcW_op (op d a b c : Nat) (ho : op ≤ 35) (hd : d < 16) (ha : a < 16) (hb : b < 16) (hc : c < 16) (n : Int) : pOp (rcW op d a b c n) = op := by
  rw [pOp_nat, rcW_nat op d a b c ho hd ha hb hc]; omega
theorem rcW_z (op d a b c : Nat) (ho : op ≤ 35) (hd : d < 16) (ha : a < 16) (hb : b < 16) (hc : c < 16) (n : Int) : rcW op d a b c n >>> 32 &&& 255#64 = 0#64 := by
  rw [pZ_nat, rcW_nat op d a b c ho hd ha hb hc]; omega
theorem rcW_d (op d a b c : Nat) (ho : op ≤ 35) (hd : d < 16) (ha : a < 16) (hb : b < 16) (hc : c < 16) (n : Int) : pF (rcW op d a b c n) 52 = d := by
  rw [pF_nat, rcW_nat op d a b c ho hd ha hb hc]; omega
theorem rcW_a (op d a b c : Nat) (ho : op ≤ 35) (hd : d < 16) (ha : a < 16) (hb : b < 16) (hc : c < 16) (n : Int) : pF (rcW op d a b c n) 48 = a := by
  rw [pF_nat, rcW_nat op d a b c ho hd ha hb hc]; omega
theorem rcW_b (op d a b c : Nat) (ho : op ≤ 35) (hd : d < 16) (ha : a < 16) (hb : b < 16) (hc : c < 16) (n : Int) : pF (rcW op d a b c n) 44 = b := by
  rw [pF_nat, rcW_nat op d a b c ho hd ha hb hc]; omega
theorem rcW_c (op d a b c : Nat) (ho : op ≤ 35) (hd : d < 16) (ha : a < 16) (hb : b < 16) (hc : c < 16) (n : Int) : pF (rcW op d a b c n) 40 = c := by
  rw [pF_nat, rcW_nat op d a b c ho hd ha hb hc]; omega
theorem rcW_n (op d a b c : Nat) (ho : op ≤ 35) (hd : d < 16) (ha : a < 16) (hb : b < 16) (hc : c < 16) (n : Int) (hn : -2147483648 ≤ n ∧ n < 2147483648) : pN (rcW op d a b c n) = n := by
  rw [pN_nat, rcW_nat op d a b c ho hd ha hb hc]
  have : (((((op * 16 + d) * 16 + a) * 16 + b) * 16 + c) * 1099511627776 + (n % 4294967296).toNat) % 4294967296 = (n % 4294967296).toNat := by omega
  rw [this]
  split <;> omega

theorem esM_P (c : Bool) (f g f' g' : Nat → BitVec 64) (pc pc' xt xt' : BitVec 64) (hl hl' : Bool) : veqP c (.st (.cons 0 8192 true (.ar 8192 1 false .int) (.cons 8192 16 true (.ar 16 1 false .int) (.cons 8208 1 false .int (.cons 8209 1 false .bool (.cons 8210 1 false .int .nil)))))) (.st 8211 (.fcons 0 (.ar 1 8192 (fun j => W (f j))) (.fcons 8192 (.ar 1 16 (fun j => W (g j))) (.fcons 8208 (W pc) (.fcons 8209 (.bool hl) (.fcons 8210 (W xt) .fnil)))))) (.st 8211 (.fcons 0 (.ar 1 8192 (fun j => W (f' j))) (.fcons 8192 (.ar 1 16 (fun j => W (g' j))) (.fcons 8208 (W pc') (.fcons 8209 (.bool hl') (.fcons 8210 (W xt') .fnil)))))) = True := by
  refine eq_true ?_
  simp only [veqP, V.fhas, V.fget, Dg.at_zero, Sim_mach, solid_mach, LT, LP, SimL, SimA, Sim, SimH, frzA, frzX, hget, hhas, V.ok, V.get, V.fget, V.fhas, seval, reduceCtorEq, implies_true, W, V.size, V.isAgg, V.solid]
theorem esM_V (f g : Nat → BitVec 64) (pc xt : BitVec 64) (hl : Bool) : veqV (.st (.cons 0 8192 true (.ar 8192 1 false .int) (.cons 8192 16 true (.ar 16 1 false .int) (.cons 8208 1 false .int (.cons 8209 1 false .bool (.cons 8210 1 false .int .nil)))))) (.st 8211 (.fcons 0 (.ar 1 8192 (fun j => W (f j))) (.fcons 8192 (.ar 1 16 (fun j => W (g j))) (.fcons 8208 (W pc) (.fcons 8209 (.bool hl) (.fcons 8210 (W xt) .fnil)))))) (.st 8211 (.fcons 0 (.ar 1 8192 (fun j => W (f j))) (.fcons 8192 (.ar 1 16 (fun j => W (g j))) (.fcons 8208 (W pc) (.fcons 8209 (.bool hl) (.fcons 8210 (W xt) .fnil)))))) = true := by
  have h1 : ∀ a : BitVec 64, veqV .int (W a) (W a) = true := fun a => by simp only [veqV, W, decide_true]
  have h2 : ∀ (n : Nat) (f : Nat → BitVec 64), veqV (.ar n 1 false .int) (.ar 1 n (fun j => W (f j))) (.ar 1 n (fun j => W (f j))) = true := fun n f => by
    simp only [veqV, W, decide_true]; simp
  have e : ∀ fs a b, veqV (.st fs) (.st 8211 a) (.st 8211 b) = veqV fs a b := fun _ _ _ => rfl
  have e2 : ∀ o s ag t r a b, veqV (.cons o s ag t r) a b = (veqV t (a.fget o) (b.fget o) && veqV r a b) := fun _ _ _ _ _ _ _ => rfl
  have e3 : ∀ a b, veqV .nil a b = true := fun _ _ => by cases hl <;> rfl
  simp only [e, e2, e3, V.fget, if_true, Nat.reduceEqDiff, if_false, h1, h2, eqV_b, seval, Bool.and_self, beq_self_eq_true]
def stI (n : Int) : List In := [⟨28, 0, 1, 2, 0, n, 0#64⟩, ⟨27, 3, 1, 0, 0, n, 0#64⟩, ⟨0, 0, 3, 0, 0, 0, 0#64⟩]
theorem rcOk_in (op : Nat) (ho : op ≤ 35) (n : Int) (hn : -2147483648 ≤ n ∧ n < 2147483648) : rcOk op n = true := by
  simp only [rcOk, decide_eq_true_eq]; omega
theorem stI_0 (n : Int) (hn : -2147483648 ≤ n ∧ n < 2147483648) : wordOf ((stI n).getD 0 default) = rcW (28 : Nat) 0 1 2 0 n := by
  show (if rcOk ((28 : Nat) : Int) n then rcW (28 : Nat) 0 1 2 0 n else 0#64) = _
  rw [rcOk_in 28 (by omega) n hn]; rfl
theorem stI_1 (n : Int) (hn : -2147483648 ≤ n ∧ n < 2147483648) : wordOf ((stI n).getD 1 default) = rcW (27 : Nat) 3 1 0 0 n := by
  show (if rcOk ((27 : Nat) : Int) n then rcW (27 : Nat) 3 1 0 0 n else 0#64) = _
  rw [rcOk_in 27 (by omega) n hn]; rfl
theorem stI_2 (n : Int) : wordOf ((stI n).getD 2 default) = rcW (0 : Nat) 0 3 0 0 0 := rfl

theorem runs_VmStores {M : Seat} (okA : OkA M) (ok : OkVS M) (base : BitVec 64) (n : Int) (v : BitVec 64) :
    Runs M 7 [W base, .int .i64 n, W v] [] 0 (fun r H' k' => r = .bool true ∧ H' = [] ∧ k' = 0) := by
  refine runs_fr ok.k7 rfl fun x hx => ?_
  refine ex_sound 2000 _ _ _ _ ?_; (simp (maxSteps := 4000000) only [f7, c7, i32_wrap, i32_i64, LG, LP, LN, V.ren, renH, hrest, numsF, epk, epochs, Mv.hx, idsOK, bs, wmask, LK.isW, LK.isA, LK.isP, num, X.ev, vbuild, vbuildOK, vcaps, vcapsOK, hget, hset, hdel, hhas, padd, V.ok, V.get, V.set, V.fget, V.fhas, V.fset, noR, Z.v, Z.sz, dropTo, seval, reduceCtorEq, forall_const])
  have hi := i32_in n
  generalize i32 n = k at *
  refine call_fA (runs_loadedOf okA ok.toOkI (stI k) (by show 0 < 3; omega) (by show 3 ≤ 8192; omega)) (by decide) (by ((try simp only [insL, Dg.at_zero, Sim_mach, solid_mach, LT, LP, SimL, SimA, Sim, SimH, frzA, frzX, hget, hhas, V.ok, V.get, V.fget, V.fhas, seval, reduceCtorEq, implies_true]); first | done | exact True.intro | rfl | ((refine ⟨rfl, Nat.le_refl 3, fun j hj => ?_⟩; have : j = 0 ∨ j = 1 ∨ j = 2 := (by have h3 : j < 3 := hj; omega); rcases this with rfl | rfl | rfl <;> (show Sim _ _ _ (insV _) _) <;> simp only [insV, Dg.at_zero, Sim_mach, solid_mach, LT, LP, SimL, SimA, Sim, SimH, frzA, frzX, hget, hhas, V.ok, V.get, V.fget, V.fhas, seval, reduceCtorEq, implies_true] <;> exact ⟨rfl, rfl, rfl, rfl, rfl, rfl, rfl⟩)))) (by simp only [insL, tup2, tup3, laidH, refm, mach, NoIm, NoIm_W, NoIm_B, NoIm_dg', NoImL, ws, implies_true, and_self]) (by simp only [insL, tup2, tup3, laidH, refm, mach, NoIm, NoIm_W, NoIm_B, NoIm_dg', NoImL, ws, implies_true, and_self]) ?_
  have u0 := stI_0 k hi
  have u1 := stI_1 k hi
  have u2 := stI_2 k
  have hlen : (stI k).length = 3 := rfl
  rw [hlen]
  generalize hu : (fun j => wordOf ((stI k).getD j default)) = u at *
  have u0 : u 0 = rcW (28 : Nat) 0 1 2 0 k := by rw [← hu]; exact u0
  have u1 : u 1 = rcW (27 : Nat) 3 1 0 0 k := by rw [← hu]; exact u1
  have u2 : u 2 = rcW (0 : Nat) 0 3 0 0 0 := by rw [← hu]; exact u2
  clear hu
  (simp (maxSteps := 4000000) only [ren_mach, LG, LP, LN, V.ren, renH, hrest, numsF, epk, epochs, Mv.hx, idsOK, bs, wmask, LK.isW, LK.isA, LK.isP, num, X.ev, vbuild, vbuildOK, vcaps, vcapsOK, hget, hset, hdel, hhas, padd, V.ok, V.get, V.set, V.fget, V.fhas, V.fset, noR, Z.v, Z.sz, dropTo, seval, reduceCtorEq, forall_const])
  refine call_fA (runs_New okA ok.toOkS) (by decide) (by ((try simp only [stoH', stoV, kinV, Sim_prV, SimV_prV, Sim_mpPr, Sim_mp0, NoIm_prV, NoIm_mpPr, NoIm_seen, Dg.at_zero, Sim_mach, solid_mach, LT, LP, SimL, SimA, Sim, SimH, frzA, frzX, hget, hhas, V.ok, V.get, V.fget, V.fhas, seval, reduceCtorEq, implies_true]); first | done | exact True.intro | rfl)) (by simp only [stoH', stoV, kinV, Sim_prV, SimV_prV, Sim_mpPr, Sim_mp0, NoIm_prV, NoIm_mpPr, NoIm_seen, tup2, tup3, laidH, refm, mach, NoIm, NoIm_W, NoIm_B, NoIm_dg', NoImL, ws, implies_true, and_self]) (by simp only [stoH', stoV, kinV, Sim_prV, SimV_prV, Sim_mpPr, Sim_mp0, NoIm_prV, NoIm_mpPr, NoIm_seen, tup2, tup3, laidH, refm, mach, NoIm, NoIm_W, NoIm_B, NoIm_dg', NoImL, ws, implies_true, and_self]) ?_
  (simp (maxSteps := 4000000) only [stoH', stoV, kinV, ren_seen, stp_mkmap, stp_mlook, stp_mupd, vlook_m, vupd_m, vlook_mpV, vupd_mpV, lkR_st, lkR_nt, lkR_sf, lkR_nf, solid_prV, size_prV, agg_prV, ren_prV, get_prV, isAr_prV, veqP_prV, veqV_prV, tpc_prV, tpp_prV, isAr_dg, elemsB_dg, elemsC_dg, elemsB_prV, elemsC_prV, ren_mpPr, ren_mach, LG, LP, LN, V.ren, renH, hrest, numsF, epk, epochs, Mv.hx, idsOK, bs, wmask, LK.isW, LK.isA, LK.isP, num, X.ev, vbuild, vbuildOK, vcaps, vcapsOK, hget, hset, hdel, hhas, padd, V.ok, V.get, V.set, V.fget, V.fhas, V.fset, noR, Z.v, Z.sz, dropTo, seval, reduceCtorEq, forall_const])
  refine call_pA (runs_fixed10 okA ok.toOkW) (by ((try simp only [Dg.at_zero, Sim_mach, solid_mach, LT, LP, SimL, SimA, Sim, SimH, frzA, frzX, hget, hhas, V.ok, V.get, V.fget, V.fhas, seval, reduceCtorEq, implies_true]); first | done | exact True.intro | rfl)) (by first | rfl | (simp only [LN, LP, V.ren, tup2, tup3])) (by simp only [tup2, tup3, laidH, refm, mach, NoIm, NoIm_W, NoIm_B, NoIm_dg', NoImL, ws, implies_true, and_self]) ?_
  (simp (maxSteps := 4000000) only [mach, LG, LP, LN, V.ren, renH, hrest, numsF, epk, epochs, Mv.hx, idsOK, bs, wmask, LK.isW, LK.isA, LK.isP, num, X.ev, vbuild, vbuildOK, vcaps, vcapsOK, hget, hset, hdel, hhas, padd, V.ok, V.get, V.set, V.fget, V.fhas, V.fset, noR, Z.v, Z.sz, dropTo, seval, reduceCtorEq, forall_const])
  have hb2 : ∀ j, (if j = 2 then W v else if j = 1 then W base else W 0#64) = W (if j = 2 then v else if j = 1 then base else 0#64) := fun j => by rw [ite_W, ite_W]
  have hw : memW 3 u (0#64).toNat = rcW (28 : Nat) 0 1 2 0 k := u0
  have hwh : (fun j => if j = 2 then v else if j = 1 then base else 0#64) (pF (rcW (28 : Nat) 0 1 2 0 k) 48) + BitVec.ofInt 64 (pN (rcW (28 : Nat) 0 1 2 0 k)) = base + BitVec.ofInt 64 k := by
    rw [rcW_a 28 0 1 2 0 (by omega) (by omega) (by omega) (by omega) (by omega), rcW_n 28 0 1 2 0 (by omega) (by omega) (by omega) (by omega) (by omega) k hi]; rfl
  have hop := rcW_op 28 0 1 2 0 (by omega) (by omega) (by omega) (by omega) (by omega) k
  have hz := rcW_z 28 0 1 2 0 (by omega) (by omega) (by omega) (by omega) (by omega) k
  by_cases h8 : 8192#64 ≤ base + BitVec.ofInt 64 k
  · have hS := runs_StepStoreWrong ok.toOkV (memW 3 u) (fun j => if j = 2 then v else if j = 1 then base else 0#64) 0#64 0#64 (by decide) _ hw hop hz _ hwh h8
    refine call_mB [176, 208] [176] (hS) (by rfl) (by rfl) (by decide) (by rfl) (by rfl) (by ((try simp only [mach, hb2, Dg.at_zero, Sim_mach, solid_mach, LT, LP, SimL, SimA, Sim, SimH, frzA, frzX, hget, hhas, V.ok, V.get, V.fget, V.fhas, seval, reduceCtorEq, implies_true]); first | done | exact True.intro | rfl)) (by ((try simp only [mach, hb2, Dg.at_zero, Sim_mach, solid_mach, LT, LP, SimL, SimA, Sim, SimH, frzA, frzX, hget, hhas, V.ok, V.get, V.fget, V.fhas, seval, reduceCtorEq, implies_true]); first | done | exact True.intro | rfl)) (by simp only [mach, hb2, tup2, tup3, laidH, refm, mach, NoIm, NoIm_W, NoIm_B, NoIm_dg', NoImL, ws, implies_true, and_self]) (by simp only [mach, hb2, tup2, tup3, laidH, refm, mach, NoIm, NoIm_W, NoIm_B, NoIm_dg', NoImL, ws, implies_true, and_self]) ?_
    (simp (maxSteps := 4000000) only [mach, eq_true h8, hb2, esM_P, esM_V, LG, LP, LN, V.ren, renH, hrest, numsF, epk, epochs, Mv.hx, idsOK, bs, wmask, LK.isW, LK.isA, LK.isP, num, X.ev, vbuild, vbuildOK, vcaps, vcapsOK, hget, hset, hdel, hhas, padd, V.ok, V.get, V.set, V.fget, V.fhas, V.fset, noR, Z.v, Z.sz, dropTo, seval, reduceCtorEq, forall_const])
    refine RetS.mk hx [] [] _ _ _ (by decide) (by (simp only [res, resPs, resP, LTP, resV, tup2, tup3, dg, LG, LP, LN, V.ren, renH, hrest, numsF, epk, epochs, Mv.hx, idsOK, bs, wmask, LK.isW, LK.isA, LK.isP, num, X.ev, vbuild, vbuildOK, vcaps, vcapsOK, hget, hset, hdel, hhas, padd, V.ok, V.get, V.set, V.fget, V.fhas, V.fset, noR, Z.v, Z.sz, dropTo, seval, reduceCtorEq, forall_const])) (by ((try simp only [res, resV, LTP, tup2, tup3, LG, LP, LN, V.ren, renH, hrest, numsF, epk, epochs, Mv.hx, idsOK, bs, wmask, LK.isW, LK.isA, LK.isP, num, X.ev, vbuild, vbuildOK, vcaps, vcapsOK, hget, hset, hdel, hhas, padd, V.ok, V.get, V.set, V.fget, V.fhas, V.fset, noR, Z.v, Z.sz, dropTo, seval, reduceCtorEq, forall_const, Dg.at_zero, Sim_mach, solid_mach, LT, LP, SimL, SimA, Sim, SimH, frzA, frzX, hget, hhas, V.ok, V.get, V.fget, V.fhas, seval, reduceCtorEq, implies_true, dg]); first | done | exact True.intro | (intros; rfl))) (by ((try simp only [Dg.at_zero, Sim_mach, solid_mach, LT, LP, SimL, SimA, Sim, SimH, frzA, frzX, hget, hhas, V.ok, V.get, V.fget, V.fhas, seval, reduceCtorEq, implies_true]); first | done | exact True.intro | (intros; rfl))) ⟨rfl, rfl, rfl⟩
  · have hS := runs_StepStore ok.toOkV (memW 3 u) (fun j => if j = 2 then v else if j = 1 then base else 0#64) 0#64 0#64 (by decide) _ hw hop hz _ hwh h8
    have hb3 : pF (rcW (28 : Nat) 0 1 2 0 k) 44 = 2 := rcW_b 28 0 1 2 0 (by omega) (by omega) (by omega) (by omega) (by omega) k
    rw [hb3, if_pos rfl] at hS
    have h01 : 0#64 + 1#64 = 1#64 := by decide
    rw [h01] at hS
    generalize hat : base + BitVec.ofInt 64 k = at' at *
    refine call_mB [176, 208] [176] (hS) (by rfl) (by rfl) (by decide) (by rfl) (by rfl) (by ((try simp only [mach, hb2, Dg.at_zero, Sim_mach, solid_mach, LT, LP, SimL, SimA, Sim, SimH, frzA, frzX, hget, hhas, V.ok, V.get, V.fget, V.fhas, seval, reduceCtorEq, implies_true]); first | done | exact True.intro | rfl)) (by ((try simp only [mach, hb2, Dg.at_zero, Sim_mach, solid_mach, LT, LP, SimL, SimA, Sim, SimH, frzA, frzX, hget, hhas, V.ok, V.get, V.fget, V.fhas, seval, reduceCtorEq, implies_true]); first | done | exact True.intro | rfl)) (by simp only [mach, hb2, tup2, tup3, laidH, refm, mach, NoIm, NoIm_W, NoIm_B, NoIm_dg', NoImL, ws, implies_true, and_self]) (by simp only [mach, hb2, tup2, tup3, laidH, refm, mach, NoIm, NoIm_W, NoIm_B, NoIm_dg', NoImL, ws, implies_true, and_self]) ?_
    have h8' : at'.toNat < 8192 := by rw [BitVec.le_def] at h8; have : ¬ 8192 ≤ at'.toNat := h8; omega
    by_cases h3 : at' < 3#64
    · (simp (maxSteps := 4000000) only [mach, eq_false h8, hb2, upd, ite_W, esM_P, esM_V, eq_true h3, LG, LP, LN, V.ren, renH, hrest, numsF, epk, epochs, Mv.hx, idsOK, bs, wmask, LK.isW, LK.isA, LK.isP, num, X.ev, vbuild, vbuildOK, vcaps, vcapsOK, hget, hset, hdel, hhas, padd, V.ok, V.get, V.set, V.fget, V.fhas, V.fset, noR, Z.v, Z.sz, dropTo, seval, reduceCtorEq, forall_const])
      repeat (refine And.intro (by first | omega | exact True.intro | rfl) ?_)
      refine RetS.mk hx [] [] _ _ _ (by decide) (by (simp only [res, resPs, resP, LTP, resV, tup2, tup3, dg, LG, LP, LN, V.ren, renH, hrest, numsF, epk, epochs, Mv.hx, idsOK, bs, wmask, LK.isW, LK.isA, LK.isP, num, X.ev, vbuild, vbuildOK, vcaps, vcapsOK, hget, hset, hdel, hhas, padd, V.ok, V.get, V.set, V.fget, V.fhas, V.fset, noR, Z.v, Z.sz, dropTo, seval, reduceCtorEq, forall_const])) (by ((try simp only [res, resV, LTP, tup2, tup3, LG, LP, LN, V.ren, renH, hrest, numsF, epk, epochs, Mv.hx, idsOK, bs, wmask, LK.isW, LK.isA, LK.isP, num, X.ev, vbuild, vbuildOK, vcaps, vcapsOK, hget, hset, hdel, hhas, padd, V.ok, V.get, V.set, V.fget, V.fhas, V.fset, noR, Z.v, Z.sz, dropTo, seval, reduceCtorEq, forall_const, Dg.at_zero, Sim_mach, solid_mach, LT, LP, SimL, SimA, Sim, SimH, frzA, frzX, hget, hhas, V.ok, V.get, V.fget, V.fhas, seval, reduceCtorEq, implies_true, dg]); first | done | exact True.intro | (intros; rfl))) (by ((try simp only [Dg.at_zero, Sim_mach, solid_mach, LT, LP, SimL, SimA, Sim, SimH, frzA, frzX, hget, hhas, V.ok, V.get, V.fget, V.fhas, seval, reduceCtorEq, implies_true]); first | done | exact True.intro | (intros; rfl))) ⟨rfl, rfl, rfl⟩
    · have h3' : 3 ≤ at'.toNat := by rw [BitVec.lt_def] at h3; have : ¬ at'.toNat < 3 := h3; omega
      (simp (maxSteps := 4000000) only [mach, eq_false h8, hb2, upd, ite_W, esM_P, esM_V, eq_false h3, LG, LP, LN, V.ren, renH, hrest, numsF, epk, epochs, Mv.hx, idsOK, bs, wmask, LK.isW, LK.isA, LK.isP, num, X.ev, vbuild, vbuildOK, vcaps, vcapsOK, hget, hset, hdel, hhas, padd, V.ok, V.get, V.set, V.fget, V.fhas, V.fset, noR, Z.v, Z.sz, dropTo, seval, reduceCtorEq, forall_const])
      repeat (refine And.intro (by first | omega | exact True.intro | rfl) ?_)
      have q0 : Runs M 70 [.ptr 0 [], .ptr 1 []] _ _ _ := runs_StepLoad ok.toOkV (upd (memW 3 u) at'.toNat v) (fun j => if j = 2 then v else if j = 1 then base else 0#64) 1#64 0#64 (by decide) (rcW (27 : Nat) 3 1 0 0 k)
        (by show (if (1 : Nat) = at'.toNat then v else memW 3 u 1) = _
            rw [if_neg (by omega)]; exact u1)
        (rcW_op 27 3 1 0 0 (by omega) (by omega) (by omega) (by omega) (by omega) k) (rcW_z 27 3 1 0 0 (by omega) (by omega) (by omega) (by omega) (by omega) k) at'
        (by rw [rcW_a 27 3 1 0 0 (by omega) (by omega) (by omega) (by omega) (by omega), rcW_n 27 3 1 0 0 (by omega) (by omega) (by omega) (by omega) (by omega) k hi]; exact hat) h8
      rw [rcW_d 27 3 1 0 0 (by omega) (by omega) (by omega) (by omega) (by omega), show upd (memW 3 u) at'.toNat v at'.toNat = v from if_pos rfl, show 1#64 + 1#64 = 2#64 from by decide] at q0
      have q1 : Runs M 70 [.ptr 0 [], .ptr 1 []] _ _ _ := runs_StepHalt ok.toOkV (upd (memW 3 u) at'.toNat v) (upd (fun j => if j = 2 then v else if j = 1 then base else 0#64) 3 v) 2#64 0#64 (by decide) (rcW (0 : Nat) 0 3 0 0 0)
        (by show (if (2 : Nat) = at'.toNat then v else memW 3 u 2) = _
            rw [if_neg (by omega)]; exact u2)
        (rcW_op 0 0 3 0 0 (by omega) (by omega) (by omega) (by omega) (by omega) 0) (rcW_z 0 0 3 0 0 (by omega) (by omega) (by omega) (by omega) (by omega) 0)
      rw [rcW_a 0 0 3 0 0 (by omega) (by omega) (by omega) (by omega) (by omega), show upd (fun j => if j = 2 then v else if j = 1 then base else 0#64) 3 v 3 = v from if_pos rfl] at q1
      have hr := runs_Run ok.toOkV (fun i => if i = 0 then (⟨upd (memW 3 u) at'.toNat v, fun j => if j = 2 then v else if j = 1 then base else 0#64, 1#64, false, 0#64⟩ : Mc)
          else if i = 1 then ⟨upd (memW 3 u) at'.toNat v, upd (fun j => if j = 2 then v else if j = 1 then base else 0#64) 3 v, 2#64, false, 0#64⟩
          else ⟨upd (memW 3 u) at'.toNat v, upd (fun j => if j = 2 then v else if j = 1 then base else 0#64) 3 v, 2#64, true, v⟩) 2 2 (by omega) (by omega)
        (fun i hi => by
          match i, hi with
          | 0, _ => exact ⟨rfl, q0⟩
          | 1, _ => exact ⟨rfl, q1⟩) (.inl rfl)
      have hr' : Runs M 71 [.ptr 0 [], .ptr 1 [], .int .i64 2] [(0, mach (upd (memW 3 u) at'.toNat v) (fun j => if j = 2 then v else if j = 1 then base else 0#64) 1#64 false 0#64)] 2
        (fun r H' k' => r = tup2 (.int .i64 2) .nili ∧ H' = [(0, mach (upd (memW 3 u) at'.toNat v) (upd (fun j => if j = 2 then v else if j = 1 then base else 0#64) 3 v) 2#64 true v)] ∧ k' = 2) := hr
      refine call_mB [176, 208] [176] (hr') (by rfl) (by rfl) (by decide) (by rfl) (by rfl) (by ((try simp only [mach, upd, ite_W, Dg.at_zero, Sim_mach, solid_mach, LT, LP, SimL, SimA, Sim, SimH, frzA, frzX, hget, hhas, V.ok, V.get, V.fget, V.fhas, seval, reduceCtorEq, implies_true]); first | done | exact True.intro | rfl)) (by ((try simp only [mach, upd, ite_W, Dg.at_zero, Sim_mach, solid_mach, LT, LP, SimL, SimA, Sim, SimH, frzA, frzX, hget, hhas, V.ok, V.get, V.fget, V.fhas, seval, reduceCtorEq, implies_true]); first | done | exact True.intro | rfl)) (by simp only [mach, upd, ite_W, tup2, tup3, laidH, refm, mach, NoIm, NoIm_W, NoIm_B, NoIm_dg', NoImL, ws, implies_true, and_self]) (by simp only [mach, upd, ite_W, tup2, tup3, laidH, refm, mach, NoIm, NoIm_W, NoIm_B, NoIm_dg', NoImL, ws, implies_true, and_self]) ?_
      (simp (maxSteps := 4000000) only [mach, tup2, LG, LP, LN, V.ren, renH, hrest, numsF, epk, epochs, Mv.hx, idsOK, bs, wmask, LK.isW, LK.isA, LK.isP, num, X.ev, vbuild, vbuildOK, vcaps, vcapsOK, hget, hset, hdel, hhas, padd, V.ok, V.get, V.set, V.fget, V.fhas, V.fset, noR, Z.v, Z.sz, dropTo, seval, reduceCtorEq, forall_const])
      refine RetS.mk hx [] [] _ _ _ (by decide) (by (simp only [res, resPs, resP, LTP, resV, tup2, tup3, dg, LG, LP, LN, V.ren, renH, hrest, numsF, epk, epochs, Mv.hx, idsOK, bs, wmask, LK.isW, LK.isA, LK.isP, num, X.ev, vbuild, vbuildOK, vcaps, vcapsOK, hget, hset, hdel, hhas, padd, V.ok, V.get, V.set, V.fget, V.fhas, V.fset, noR, Z.v, Z.sz, dropTo, seval, reduceCtorEq, forall_const])) (by ((try simp only [res, resV, LTP, tup2, tup3, LG, LP, LN, V.ren, renH, hrest, numsF, epk, epochs, Mv.hx, idsOK, bs, wmask, LK.isW, LK.isA, LK.isP, num, X.ev, vbuild, vbuildOK, vcaps, vcapsOK, hget, hset, hdel, hhas, padd, V.ok, V.get, V.set, V.fget, V.fhas, V.fset, noR, Z.v, Z.sz, dropTo, seval, reduceCtorEq, forall_const, Dg.at_zero, Sim_mach, solid_mach, LT, LP, SimL, SimA, Sim, SimH, frzA, frzX, hget, hhas, V.ok, V.get, V.fget, V.fhas, seval, reduceCtorEq, implies_true, dg]); first | done | exact True.intro | (intros; rfl))) (by ((try simp only [Dg.at_zero, Sim_mach, solid_mach, LT, LP, SimL, SimA, Sim, SimH, frzA, frzX, hget, hhas, V.ok, V.get, V.fget, V.fhas, seval, reduceCtorEq, implies_true]); first | done | exact True.intro | (intros; rfl))) ⟨rfl, rfl, rfl⟩
end Mv
