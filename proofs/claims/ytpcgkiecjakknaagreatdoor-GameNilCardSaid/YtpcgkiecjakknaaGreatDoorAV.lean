/- A part. -/
import Derived.Test.YtpcgkiecjakknaaGreatDoorAU
set_option linter.all false
namespace Mv
open Go
def Dg.put (d : Dg) (k : Nat) (b : BitVec 8) : Dg := Dg.mk' fun j => if j = k then b else d.at j
theorem Dg.at_out (d : Dg) (j : Nat) (hj : ¬ j < 32) : d.at j = 0 := by
  rw [Dg.at, List.getD_eq_getElem?_getD, List.getElem?_eq_none (by rw [d.h]; omega)]; rfl

theorem stp_mkmap (A : List V) (H : Hp) (n : Nat) (zk zv : Z) : step A H n (.mkmap zk zv) = ⟨True, .map n, (n, .mp 0 (fun _ => zk.v 0) (fun _ => zv.v 0)) :: H⟩ := rfl
theorem stp_mlook (A : List V) (H : Hp) (n : Nat) (s : ES) (z : Z) (ok : Bool) (m k : X) : step A H n (.mlook s z ok m k) = vlook s z ok (m.ev A) (k.ev A) H := rfl
theorem stp_mupd (A : List V) (H : Hp) (n : Nat) (s : ES) (m k x : X) : step A H n (.mupd s m k x) = vupd s (m.ev A) (k.ev A) (x.ev A) H := rfl
def vlookB (s : ES) (z : Z) (ok : Bool) (hh : Bool) (b k : V) (H : Hp) : Out := match b with
  | .mp n ks vs => ⟨hh = true ∧ k.solid = true ∧ veqP true s k k ∧ ∀ i, i < n → veqP true s k (ks i),
        (match mff s k ks 0 n with
        | some i => if ok then .tup (.fcons 0 (vs i) (.fcons 1 (.bool true) .fnil)) else vs i
        | none => if ok then .tup (.fcons 0 (z.v 0) (.fcons 1 (.bool false) .fnil)) else z.v 0), H⟩
  | _ => bad H
def vupdB (s : ES) (hh : Bool) (b k x : V) (id : Nat) (H : Hp) : Out := match b with
  | .mp n ks vs => ⟨hh = true ∧ k.solid = true ∧ x.solid = true ∧ veqP true s k k ∧ ∀ i, i < n → veqP true s k (ks i), .tup .fnil,
        hset H id (.mp (match mff s k ks 0 n with | some _ => n | none => n + 1) (fun j => if j = (mff s k ks 0 n).getD n then k else ks j) (fun j => if j = (mff s k ks 0 n).getD n then x else vs j))⟩
  | _ => bad H
theorem vlook_m (s : ES) (z : Z) (ok : Bool) (id : Nat) (k : V) (H : Hp) : vlook s z ok (.map id) k H = vlookB s z ok (hhas H id) (hget H id) k H := by
  simp only [vlook, vlookB]
  generalize hget H id = b
  cases b <;> rfl
theorem vupd_m (s : ES) (id : Nat) (k x : V) (H : Hp) : vupd s (.map id) k x H = vupdB s (hhas H id) (hget H id) k x id H := by
  simp only [vupd, vupdB]
  generalize hget H id = b
  cases b <;> rfl

section
variable {α : Type}
/-- Where a key stands; what it has; a list with it. -/
def lix (k : Dg) : List (Dg × α) → Option Nat
  | [] => none
  | (a, _) :: r => if k = a then some 0 else (lix k r).map (· + 1)
def lkp (k : Dg) : List (Dg × α) → Option α
  | [] => none
  | (a, b) :: r => if k = a then some b else lkp k r
def updL (k : Dg) (x : α) : List (Dg × α) → List (Dg × α)
  | [] => [(k, x)]
  | (a, b) :: r => if k = a then (k, x) :: r else (a, b) :: updL k x r
def mpV (g : α → V) (d : α) (l : List (Dg × α)) : V := .mp l.length (fun j => dg (l.getD j (Dg.zero, d)).1) (fun j => g (l.getD j (Dg.zero, d)).2)

theorem mff_lix (k : Dg) (ks : Nat → V) (d : α) : ∀ (l : List (Dg × α)) (i : Nat), (∀ j, j < l.length → ks (i + j) = dg (l.getD j (Dg.zero, d)).1) → mff (.ar 32 1 false .int) (dg k) ks i l.length = (lix k l).map (i + ·)
  | [], _, _ => rfl
  | (a, b) :: r, i, h => by
    have h0 := h 0 (by simp)
    simp only [Nat.add_zero, List.getD_cons_zero] at h0
    have ih := mff_lix k ks d r (i + 1) (fun j hj => by
      have := h (j + 1) (by simpa using hj)
      simp only [List.getD_cons_succ] at this
      rw [← this]; congr 1; omega)
    simp only [List.length_cons, mff, h0, veqV_dg, decide_eq_true_eq, lix]
    by_cases hk : k = a
    · simp [hk]
    · simp only [hk, if_false, ih, Option.map_map]
      congr 1
      funext j
      simp only [Function.comp]; omega
theorem mff_mpV (k : Dg) (d : α) (l : List (Dg × α)) : mff (.ar 32 1 false .int) (dg k) (fun j => dg (l.getD j (Dg.zero, d)).1) 0 l.length = lix k l := by
  rw [mff_lix k _ d l 0 (fun j _ => by rw [Nat.zero_add])]
  cases lix k l <;> simp
theorem lix_lkp (k : Dg) (d : α) : ∀ l : List (Dg × α), lkp k l = (lix k l).map (fun i => (l.getD i (Dg.zero, d)).2)
  | [] => rfl
  | (a, b) :: r => by
    simp only [lkp, lix]
    by_cases hk : k = a
    · simp [hk]
    · simp only [hk, if_false, lix_lkp k d r, Option.map_map]
      congr 1
/-- What a look-up hands back. -/
def lkR (z : Z) (ok : Bool) (g : α → V) : Option α → V
  | some x => if ok then .tup (.fcons 0 (g x) (.fcons 1 (.bool true) .fnil)) else g x
  | none => if ok then .tup (.fcons 0 (z.v 0) (.fcons 1 (.bool false) .fnil)) else z.v 0
theorem lkR_st (z : Z) (g : α → V) (x : α) : lkR z true g (some x) = .tup (.fcons 0 (g x) (.fcons 1 (.bool true) .fnil)) := rfl
theorem lkR_nt (z : Z) (g : α → V) : lkR z true g none = .tup (.fcons 0 (z.v 0) (.fcons 1 (.bool false) .fnil)) := rfl
theorem lkR_sf (z : Z) (g : α → V) (x : α) : lkR z false g (some x) = g x := rfl
theorem lkR_nf (z : Z) (g : α → V) : lkR z false g none = z.v 0 := rfl
theorem vlook_mpV (z : Z) (ok hh : Bool) (g : α → V) (d : α) (l : List (Dg × α)) (k : Dg) (H : Hp) : vlookB (.ar 32 1 false .int) z ok hh (mpV g d l) (dg k) H = ⟨hh = true, lkR z ok g (lkp k l), H⟩ := by
  simp only [vlookB, mpV, mff_mpV, lix_lkp k d l, solid_dg, eq_true (veqP_dg true _ _), implies_true, and_true, true_and]
  congr 1
  cases lix k l <;> rfl
theorem updL_len (k : Dg) (x : α) : ∀ l : List (Dg × α), (updL k x l).length = (match lix k l with | some _ => l.length | none => l.length + 1)
  | [] => rfl
  | (a, b) :: r => by
    simp only [updL, lix]
    by_cases hk : k = a
    · simp [hk]
    · simp only [hk, if_false, List.length_cons, updL_len k x r]
      cases lix k r <;> rfl
theorem updL_at (k : Dg) (x : α) (d : Dg × α) : ∀ (l : List (Dg × α)) (j : Nat), (updL k x l).getD j d = if j = (lix k l).getD l.length then (k, x) else l.getD j d
  | [], j => by
    simp only [updL, lix, Option.getD_none, List.length_nil]
    cases j <;> simp
  | (a, b) :: r, j => by
    simp only [updL, lix]
    by_cases hk : k = a
    · simp only [hk, if_true, Option.getD_some]
      cases j <;> simp
    · simp only [hk, if_false]
      cases j with
      | zero =>
        simp only [List.getD_cons_zero, List.length_cons]
        rw [if_neg]
        cases lix k r <;> simp
      | succ j =>
        simp only [List.getD_cons_succ, updL_at k x d r j, List.length_cons]
        have e : ((lix k r).map (· + 1)).getD (r.length + 1) = (lix k r).getD r.length + 1 := by cases lix k r <;> rfl
        rw [e]
        simp only [Nat.add_right_cancel_iff]
theorem vupd_mpV (hh : Bool) (g : α → V) (d : α) (l : List (Dg × α)) (k : Dg) (x : α) (id : Nat) (H : Hp) : vupdB (.ar 32 1 false .int) hh (mpV g d l) (dg k) (g x) id H = ⟨hh = true ∧ (g x).solid = true, .tup .fnil, hset H id (mpV g d (updL k x l))⟩ := by
  have e : mpV g d (updL k x l) = .mp (match lix k l with | some _ => l.length | none => l.length + 1) (fun j => if j = (lix k l).getD l.length then dg k else dg (l.getD j (Dg.zero, d)).1) (fun j => if j = (lix k l).getD l.length then g x else g (l.getD j (Dg.zero, d)).2) := by
    simp only [mpV, updL_len, updL_at]
    congr 1
    · funext j; split <;> rfl
    · funext j; split <;> rfl
  rw [e]
  simp only [vupdB, mpV, mff_mpV, solid_dg, eq_true (veqP_dg true _ _), implies_true, and_true, true_and]
theorem ren_mpV (m : List Nat) (g : α → V) (hg : ∀ x, (g x).ren m = g x) (d : α) (l : List (Dg × α)) : (mpV g d l).ren m = mpV g d l := by
  simp only [mpV, V.ren, ren_dg, hg]
end

/-- 64 bytes. -/
structure Pr where
  l : List (BitVec 8)
  h : l.length = 64
deriving DecidableEq
def Pr.at (d : Pr) (j : Nat) : BitVec 8 := d.l.getD j 0
def Pr.mk' (f : Nat → BitVec 8) : Pr := ⟨(List.range 64).map f, by simp⟩
theorem Pr.at_mk' (f : Nat → BitVec 8) (j : Nat) (hj : j < 64) : (Pr.mk' f).at j = f j := by
  simp [Pr.at, Pr.mk', List.getD, List.getElem?_map, List.getElem?_range hj]
theorem Pr.ext' {a b : Pr} (h : ∀ j, j < 64 → a.at j = b.at j) : a = b := by
  obtain ⟨l, hl⟩ := a
  obtain ⟨m, hm⟩ := b
  have : l = m := by
    apply List.ext_getElem (by omega)
    intro i h1 h2
    have := h i (by omega)
    simpa [Pr.at, List.getD, h1, h2] using this
  subst this; rfl
def Pr.zero : Pr := Pr.mk' fun _ => 0
theorem Pr.at_out (d : Pr) (j : Nat) (hj : ¬ j < 64) : d.at j = 0 := by
  rw [Pr.at, List.getD_eq_getElem?_getD, List.getElem?_eq_none (by rw [d.h]; omega)]; rfl
theorem Pr.at_zero (j : Nat) : Pr.zero.at j = 0 := by
  by_cases hj : j < 64
  · rw [Pr.zero, Pr.at_mk' _ _ hj]
  · exact Pr.at_out _ _ hj
def prV (p : Pr) : V := .ar 1 64 (fun j => B (p.at j))
theorem solid_prV (p : Pr) : (prV p).solid = true := rfl
theorem size_prV (p : Pr) : (prV p).size = 64 := rfl
theorem agg_prV (p : Pr) : (prV p).isAgg = true := rfl
theorem ren_prV (m : List Nat) (p : Pr) : (prV p).ren m = prV p := rfl
theorem get_prV (k : Nat) (p : Pr) : V.get [.i 1 k] (prV p) = B (p.at k) := rfl
theorem isAr_prV (p : Pr) : isAr 1 64 (prV p) = True := by simp [prV, isAr]
theorem veqP_prV (c : Bool) (a b : Pr) : veqP c (.ar 64 1 false .int) (prV a) (prV b) := by
  simp only [veqP, prV, true_and]
  intro i _
  refine ⟨rfl, rfl, ?_⟩
  simp only [B]
theorem veqV_prV (a b : Pr) : veqV (.ar 64 1 false .int) (prV a) (prV b) = decide (a = b) := by
  have h1 : veqV (.ar 64 1 false .int) (prV a) (prV b) = (List.range 64).all (fun i => decide (a.at i = b.at i)) := by
    simp only [veqV, prV, B, eqB]
  rw [h1, Bool.eq_iff_iff, List.all_eq_true]
  simp only [decide_eq_true_eq, List.mem_range]
  constructor
  · exact fun h => Pr.ext' h
  · rintro rfl _ _; rfl
theorem isAr_dg (d : Dg) : isAr 1 32 (dg d) = True := by simp [dg, isAr]
theorem elemsB_dg (o n sz : Nat) (d : Dg) : elemsB o n sz (dg d) = some (sz, n, fun i => B (d.at (o + i))) := rfl
theorem elemsC_dg (o n : Nat) (d : Dg) : elemsC o n 1 (dg d) = (o + n ≤ 32) := by simp [dg, elemsC]
theorem elemsB_prV (o n sz : Nat) (d : Pr) : elemsB o n sz (prV d) = some (sz, n, fun i => B (d.at (o + i))) := rfl
theorem elemsC_prV (o n : Nat) (d : Pr) : elemsC o n 1 (prV d) = (o + n ≤ 64) := by simp [prV, elemsC]
theorem ren_mpPr (m : List Nat) (d : Pr) (l : List (Dg × Pr)) : (mpV prV d l).ren m = mpV prV d l := ren_mpV m prV (fun _ => rfl) d l
theorem tpc_prV (p : Pr) (i : Nat) (r : V) : tpc (prV p) i r = .fcons i (prV p) r := rfl
theorem tpp_prV (p : Pr) : tpp (prV p) = True := by simp [tpp, prV, V.solid]
def LZ := (And.intro (And.intro (And.intro (And.intro (And.intro (And.intro @LG (And.intro @LP @LN)) (And.intro (And.intro @V.ren.eq_1 @V.ren.eq_2) (And.intro @V.ren.eq_3 @V.ren.eq_4))) (And.intro (And.intro (And.intro @V.ren.eq_5 @V.ren.eq_6) (And.intro @V.ren.eq_7 @V.ren.eq_8)) (And.intro (And.intro @V.ren.eq_9 @V.ren.eq_10) (And.intro @V.ren.eq_11 @V.ren.eq_12)))) (And.intro (And.intro (And.intro (And.intro @V.ren.eq_13 @renH.eq_1) (And.intro @renH.eq_2 @hrest.eq_1)) (And.intro (And.intro @hrest.eq_2 @numsF.eq_1) (And.intro @numsF.eq_2 @numsF.eq_3))) (And.intro (And.intro (And.intro @numsF.eq_4 @epk.eq_1) (And.intro @epk.eq_2 @epochs.eq_1)) (And.intro (And.intro @epochs.eq_2 @Mv.hx.eq_1) (And.intro @idsOK.eq_1 @idsOK.eq_2))))) (And.intro (And.intro (And.intro (And.intro @bs.eq_1 (And.intro @wmask.eq_1 @wmask.eq_2)) (And.intro (And.intro @LK.isW.eq_1 @LK.isW.eq_2) (And.intro @LK.isW.eq_3 @LK.isW.eq_4))) (And.intro (And.intro (And.intro @LK.isW.eq_5 (And.intro @LK.isW.eq_6 @LK.isW.eq_7)) (And.intro @LK.isA.eq_1 @LK.isA.eq_2)) (And.intro (And.intro @LK.isA.eq_3 @LK.isA.eq_4) (And.intro @LK.isA.eq_5 @LK.isA.eq_6)))) (And.intro (And.intro (And.intro (And.intro @LK.isA.eq_7 @LK.isP.eq_1) (And.intro @LK.isP.eq_2 @LK.isP.eq_3)) (And.intro (And.intro @LK.isP.eq_4 @LK.isP.eq_5) (And.intro @LK.isP.eq_6 @LK.isP.eq_7))) (And.intro (And.intro (And.intro @LK.isP.eq_8 @LK.isP.eq_9) (And.intro (And.intro @LK.isP.eq_10 @LK.isP.eq_11) @num.eq_1)) (And.intro (And.intro @num.eq_2 @X.ev.eq_1) (And.intro @X.ev.eq_2 @X.ev.eq_3)))))) (And.intro (And.intro (And.intro (And.intro (And.intro @X.ev.eq_4 (And.intro @vbuild.eq_1 @vbuild.eq_2)) (And.intro (And.intro @vbuildOK.eq_1 @vbuildOK.eq_2) (And.intro @vcaps.eq_1 @vcaps.eq_2))) (And.intro (And.intro (And.intro @vcapsOK.eq_1 @vcapsOK.eq_2) (And.intro @hget.eq_1 @hget.eq_2)) (And.intro (And.intro @hset.eq_1 @hset.eq_2) (And.intro @hdel.eq_1 @hdel.eq_2)))) (And.intro (And.intro (And.intro (And.intro @hhas.eq_1 @hhas.eq_2) (And.intro @padd.eq_1 @padd.eq_2)) (And.intro (And.intro @padd.eq_3 @V.ok.eq_1) (And.intro @V.ok.eq_2 @V.ok.eq_3))) (And.intro (And.intro (And.intro @V.ok.eq_4 @V.ok.eq_5) (And.intro @V.get.eq_1 @V.get.eq_2)) (And.intro (And.intro @V.get.eq_3 @V.get.eq_4) (And.intro @V.get.eq_5 @V.set.eq_1))))) (And.intro (And.intro (And.intro (And.intro (And.intro @V.set.eq_2 @V.set.eq_3) (And.intro @V.set.eq_4 @V.fget.eq_1)) (And.intro (And.intro @V.fget.eq_2 @V.fhas.eq_1) (And.intro @V.fhas.eq_2 @V.fset.eq_1))) (And.intro (And.intro (And.intro @V.fset.eq_2 @noR.eq_1) (And.intro @noR.eq_2 @noR.eq_3)) (And.intro (And.intro @Z.v.eq_1 @Z.v.eq_2) (And.intro @Z.v.eq_3 @Z.v.eq_4)))) (And.intro (And.intro (And.intro (And.intro @Z.v.eq_5 @Z.v.eq_6) (And.intro @Z.v.eq_7 @Z.v.eq_8)) (And.intro (And.intro @Z.v.eq_9 @Z.v.eq_10) (And.intro @Z.v.eq_11 @Z.v.eq_12))) (And.intro (And.intro (And.intro @Z.sz.eq_1 @Z.sz.eq_2) (And.intro @Z.sz.eq_3 @Z.sz.eq_4)) (And.intro (And.intro @Z.sz.eq_5 @dropTo.eq_1) (And.intro @dropTo.eq_2 @dropTo.eq_3)))))))
def LY := (And.intro (And.intro (And.intro (And.intro (And.intro (And.intro @Dg.at_zero @Sim_mach) (And.intro @solid_mach @LT)) (And.intro (And.intro @LP @SimL.eq_1) (And.intro @SimL.eq_2 @SimA.eq_1))) (And.intro (And.intro (And.intro @SimA.eq_2 @SimA.eq_3) (And.intro @Sim.eq_1 @Sim.eq_2)) (And.intro (And.intro @Sim.eq_3 @Sim.eq_4) (And.intro @Sim.eq_5 (And.intro @Sim.eq_6 @Sim.eq_7))))) (And.intro (And.intro (And.intro (And.intro @Sim.eq_8 @Sim.eq_9) (And.intro @Sim.eq_10 @Sim.eq_11)) (And.intro (And.intro @Sim.eq_12 @Sim.eq_13) (And.intro @Sim.eq_14 @Sim.eq_15))) (And.intro (And.intro (And.intro @Sim.eq_16 @Sim.eq_17) (And.intro @Sim.eq_18 @Sim.eq_19)) (And.intro (And.intro @Sim.eq_20 @Sim.eq_21) (And.intro @Sim.eq_22 (And.intro @Sim.eq_23 @Sim.eq_24)))))) (And.intro (And.intro (And.intro (And.intro (And.intro @Sim.eq_25 @Sim.eq_26) (And.intro @Sim.eq_27 @Sim.eq_28)) (And.intro (And.intro @Sim.eq_29 @Sim.eq_30) (And.intro @Sim.eq_31 @Sim.eq_32))) (And.intro (And.intro (And.intro @Sim.eq_33 @Sim.eq_34) (And.intro @Sim.eq_35 (And.intro @Sim.eq_36 @Sim.eq_37))) (And.intro (And.intro @SimH.eq_1 @SimH.eq_2) (And.intro @hget.eq_1 (And.intro @hget.eq_2 @hhas.eq_1))))) (And.intro (And.intro (And.intro (And.intro @hhas.eq_2 @V.ok.eq_1) (And.intro @V.ok.eq_2 @V.ok.eq_3)) (And.intro (And.intro @V.ok.eq_4 @V.ok.eq_5) (And.intro @V.get.eq_1 @V.get.eq_2))) (And.intro (And.intro (And.intro @V.get.eq_3 @V.get.eq_4) (And.intro @V.get.eq_5 @V.fget.eq_1)) (And.intro (And.intro @V.fget.eq_2 @V.fhas.eq_1) (And.intro @V.fhas.eq_2 (And.intro @frzA @frzX)))))))
def LX := (And.intro (And.intro (And.intro (And.intro @tup2.eq_1 @tup3.eq_1) (And.intro @laidH.eq_1 (And.intro @refm.eq_1 @mach.eq_1))) (And.intro (And.intro @NoIm.eq_1 (And.intro @NoIm.eq_2 @NoIm.eq_3)) (And.intro @NoIm.eq_4 (And.intro @NoIm.eq_5 @NoIm.eq_6)))) (And.intro (And.intro (And.intro @NoIm.eq_7 @NoIm.eq_8) (And.intro @NoIm.eq_9 (And.intro @NoIm.eq_10 @NoImL.eq_1))) (And.intro (And.intro @NoImL.eq_2 (And.intro @ws.eq_1 @NoIm_W)) (And.intro @NoIm_B (And.intro @NoIm_dg' @and_self)))))
def LV := (And.intro (And.intro (And.intro @res.eq_1 (And.intro @res.eq_2 @resPs.eq_1)) (And.intro @resPs.eq_2 (And.intro @resP.eq_1 @resP.eq_2))) (And.intro (And.intro @resV.eq_1 (And.intro @resV.eq_2 @tup2.eq_1)) (And.intro @tup3.eq_1 (And.intro @dg.eq_1 @LTP))))
def LM := (And.intro (And.intro (And.intro (And.intro @stp_mkmap (And.intro @stp_mlook @stp_mupd)) (And.intro @vlook_m (And.intro @vupd_m @vlook_mpV))) (And.intro (And.intro @vupd_mpV (And.intro @lkR_st @lkR_nt)) (And.intro (And.intro @lkR_sf @lkR_nf) (And.intro @solid_prV @size_prV)))) (And.intro (And.intro (And.intro @agg_prV (And.intro @ren_prV @get_prV)) (And.intro (And.intro @isAr_prV @veqP_prV) (And.intro @veqV_prV @tpc_prV))) (And.intro (And.intro @tpp_prV (And.intro @isAr_dg @elemsB_dg)) (And.intro (And.intro @elemsC_dg @elemsB_prV) (And.intro @elemsC_prV @ren_mpPr)))))
/- The same with what is always shown in the same way left out. -/
theorem call_pZ {M : Seat} {f : Nat} {us us0 : List V} {H : Hp} {n : Nat} {K : V → Hp → Prop} {v : V} (hr : Runs M f us0 [] 0 (fun r H' k' => r = v ∧ H' = [] ∧ k' = 0)) (hK : K v H) (hus : SimA H [] (ids H) us0 us := by ((try simp only [LY, seval, reduceCtorEq, implies_true]); first | done | exact True.intro | rfl)) (hv : v.ren (nums [] n 0) = v := by first | rfl | (simp only [LN, LP, V.ren, tup2, tup3])) (hn : NoIm v := by simp only [LX, implies_true]) : CallK M f us H n K := call_pA hr hus hv hn hK
theorem call_mZ {M : Seat} {f : Nat} {us us0 : List V} {H H0 Hn : Hp} {n k kn : Nat} {K : V → Hp → Prop} {v : V} (m : List Nat) (hr : Runs M f us0 H0 k (fun r H' k' => r = v ∧ H' = Hn ∧ k' = kn)) (hK : K (v.ren (numsF m n kn)) (renH (numsF m n kn) Hn ++ hrest H m)) (hm : (decide m.Nodup && decide (m.length = k) && decide (k ≤ kn) && decide (kn ≤ k + 16)) = true := by decide) (hall : (m.all fun i => hhas H i) = true := by rfl) (hus : SimA H m (idsx H m) us0 us := by ((try simp only [LY, seval, reduceCtorEq, implies_true]); first | done | exact True.intro | rfl)) (hH : SimH H m (idsx H m) H0 := by ((try simp only [LY, seval, reduceCtorEq, implies_true]); first | done | exact True.intro | rfl)) (hv : NoIm v := by simp only [LX, implies_true]) (hn : NoImL Hn := by simp only [LX, implies_true]) : CallK M f us H n K := call_mA m hr hm hall hus hH hv hn hK
theorem opd_pZ {M : Seat} {f : Nat} {us us0 : List V} {H : Hp} {n : Nat} {K : V → Hp → Prop} {v : V} (hr : Runs M f us0 [] 0 (fun r H' k' => r = v ∧ H' = [] ∧ k' = 0)) (hK : K v H) (hus : SimA H [] (ids H) us0 us := by ((try simp only [LY, seval, reduceCtorEq, implies_true]); first | done | exact True.intro | rfl)) (hv : v.ren (nums [] n 0) = v := by first | rfl | (simp only [LN, LP, V.ren, tup2, tup3])) (hn : NoIm v := by simp only [LX, implies_true]) : OpDC M f us H n K := opd_pA hr hus hv hn hK
theorem RetS.mkZ {M : Seat} {x : Ctx} {rs : List RVr} {Q : V → Hp → Nat → Prop} {A : List V} {H : Hp} {N : Nat} {k : Nat} (hx : x.k = k) (m : List Nat) {v : V} {H' : Hp} {N' : Nat} (h4 : Q v H' N') (hm : (decide m.Nodup && ([] : List Nat).all (fun i => !m.contains i) && decide (m.length ≤ N') && decide (k ≤ N') && (List.range k).all (fun j => m[j]? == some j)) = true := by decide) (h1 : (res A H rs).1 := by (simp only [LV, LZ, seval, reduceCtorEq, forall_const])) (h2 : SimV H m [] v (res A H rs).2 := by ((try simp only [LV, LZ, seval, reduceCtorEq, forall_const, LY, seval, reduceCtorEq, implies_true]); first | done | exact True.intro | (intros; rfl))) (h3 : SimH H m [] H' := by ((try simp only [LY, seval, reduceCtorEq, implies_true]); first | done | exact True.intro | (intros; rfl))) : RetS M x rs Q A H N := RetS.mk hx m [] v H' N' hm h1 h2 h3 h4
end Mv
