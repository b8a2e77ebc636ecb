/- Maps whose keys are digests, as lists. -/
import Derived.Test.YtfoaeafobdamcaaDoorMwQ
set_option linter.unusedSimpArgs false
set_option linter.unusedVariables false
namespace Mv
open Go

theorem stp_mkmap (A : List V) (H : Hp) (n : Nat) (zk zv : Z) : step A H n (.mkmap zk zv) = ⟨True, .map n, (n, .mp 0 (fun _ => zk.v 0) (fun _ => zv.v 0)) :: H⟩ := rfl
theorem stp_mlook (A : List V) (H : Hp) (n : Nat) (s : ES) (z : Z) (ok : Bool) (m k : X) : step A H n (.mlook s z ok m k) = vlook s z ok (m.ev A) (k.ev A) H := rfl
theorem stp_mupd (A : List V) (H : Hp) (n : Nat) (s : ES) (m k x : X) : step A H n (.mupd s m k x) = vupd s (m.ev A) (k.ev A) (x.ev A) H := rfl
def vlookB (s : ES) (z : Z) (ok : Bool) (hh : Bool) (b k : V) (H : Hp) : Out := match b with
  | .mp n ks vs => ⟨hh = true ∧ k.solid = true ∧ veqP true s k k ∧ ∀ i, i < n → veqP true s k (ks i),
        (match mff s k ks 0 n with
        | some i => if ok then .tup (.fcons 0 (vs i) (.fcons 1 (.bool true) .fnil)) else vs i
        | none => if ok then .tup (.fcons 0 (z.v 0) (.fcons 1 (.bool false) .fnil)) else z.v 0), H⟩
  | _ => bad H
def vupdB (s : ES) (hh : Bool) (b k x : V) (id : Nat) (H : Hp) : Out := match b with
  | .mp n ks vs => ⟨hh = true ∧ k.solid = true ∧ x.solid = true ∧ veqP true s k k ∧ ∀ i, i < n → veqP true s k (ks i), .tup .fnil,
        hset H id (.mp (match mff s k ks 0 n with | some _ => n | none => n + 1) (fun j => if j = (mff s k ks 0 n).getD n then k else ks j) (fun j => if j = (mff s k ks 0 n).getD n then x else vs j))⟩
  | _ => bad H
theorem vlook_m (s : ES) (z : Z) (ok : Bool) (id : Nat) (k : V) (H : Hp) : vlook s z ok (.map id) k H = vlookB s z ok (hhas H id) (hget H id) k H := by
  simp only [vlook, vlookB]
  generalize hget H id = b
  cases b <;> rfl
theorem vupd_m (s : ES) (id : Nat) (k x : V) (H : Hp) : vupd s (.map id) k x H = vupdB s (hhas H id) (hget H id) k x id H := by
  simp only [vupd, vupdB]
  generalize hget H id = b
  cases b <;> rfl

section
variable {α : Type}
/-- Where a key stands; what it has; a list with it. -/
def lix (k : Dg) : List (Dg × α) → Option Nat
  | [] => none
  | (a, _) :: r => if k = a then some 0 else (lix k r).map (· + 1)
def lkp (k : Dg) : List (Dg × α) → Option α
  | [] => none
  | (a, b) :: r => if k = a then some b else lkp k r
def updL (k : Dg) (x : α) : List (Dg × α) → List (Dg × α)
  | [] => [(k, x)]
  | (a, b) :: r => if k = a then (k, x) :: r else (a, b) :: updL k x r
def mpV (g : α → V) (d : α) (l : List (Dg × α)) : V := .mp l.length (fun j => dg (l.getD j (Dg.zero, d)).1) (fun j => g (l.getD j (Dg.zero, d)).2)

theorem mff_lix (k : Dg) (ks : Nat → V) (d : α) : ∀ (l : List (Dg × α)) (i : Nat), (∀ j, j < l.length → ks (i + j) = dg (l.getD j (Dg.zero, d)).1) → mff (.ar 32 1 false .int) (dg k) ks i l.length = (lix k l).map (i + ·)
  | [], _, _ => rfl
  | (a, b) :: r, i, h => by
    have h0 := h 0 (by simp)
    simp only [Nat.add_zero, List.getD_cons_zero] at h0
    have ih := mff_lix k ks d r (i + 1) (fun j hj => by
      have := h (j + 1) (by simpa using hj)
      simp only [List.getD_cons_succ] at this
      rw [← this]; congr 1; omega)
    simp only [List.length_cons, mff, h0, veqV_dg, decide_eq_true_eq, lix]
    by_cases hk : k = a
    · simp [hk]
    · simp only [hk, if_false, ih, Option.map_map]
      congr 1
      funext j
      simp only [Function.comp]; omega
theorem mff_mpV (k : Dg) (d : α) (l : List (Dg × α)) : mff (.ar 32 1 false .int) (dg k) (fun j => dg (l.getD j (Dg.zero, d)).1) 0 l.length = lix k l := by
  rw [mff_lix k _ d l 0 (fun j _ => by rw [Nat.zero_add])]
  cases lix k l <;> simp
theorem lix_lkp (k : Dg) (d : α) : ∀ l : List (Dg × α), lkp k l = (lix k l).map (fun i => (l.getD i (Dg.zero, d)).2)
  | [] => rfl
  | (a, b) :: r => by
    simp only [lkp, lix]
    by_cases hk : k = a
    · simp [hk]
    · simp only [hk, if_false, lix_lkp k d r, Option.map_map]
      congr 1
theorem lix_lt (k : Dg) : ∀ (l : List (Dg × α)) (i : Nat), lix k l = some i → i < l.length
  | [], i, h => by simp [lix] at h
  | (a, b) :: r, i, h => by
    simp only [lix] at h
    by_cases hk : k = a
    · simp [hk] at h; subst h; simp
    · simp only [hk, if_false, Option.map_eq_some_iff] at h
      obtain ⟨j, hj, rfl⟩ := h
      have := lix_lt k r j hj
      simpa using this
/-- What a look-up hands back. -/
def lkR (z : Z) (ok : Bool) (g : α → V) : Option α → V
  | some x => if ok then .tup (.fcons 0 (g x) (.fcons 1 (.bool true) .fnil)) else g x
  | none => if ok then .tup (.fcons 0 (z.v 0) (.fcons 1 (.bool false) .fnil)) else z.v 0
theorem lkR_st (z : Z) (g : α → V) (x : α) : lkR z true g (some x) = .tup (.fcons 0 (g x) (.fcons 1 (.bool true) .fnil)) := rfl
theorem lkR_nt (z : Z) (g : α → V) : lkR z true g none = .tup (.fcons 0 (z.v 0) (.fcons 1 (.bool false) .fnil)) := rfl
theorem lkR_sf (z : Z) (g : α → V) (x : α) : lkR z false g (some x) = g x := rfl
theorem lkR_nf (z : Z) (g : α → V) : lkR z false g none = z.v 0 := rfl
theorem vlook_mpV (z : Z) (ok hh : Bool) (g : α → V) (d : α) (l : List (Dg × α)) (k : Dg) (H : Hp) : vlookB (.ar 32 1 false .int) z ok hh (mpV g d l) (dg k) H = ⟨hh = true, lkR z ok g (lkp k l), H⟩ := by
  simp only [vlookB, mpV, mff_mpV, lix_lkp k d l, solid_dg, eq_true (veqP_dg true _ _), implies_true, and_true, true_and]
  congr 1
  cases lix k l <;> rfl
theorem updL_len (k : Dg) (x : α) : ∀ l : List (Dg × α), (updL k x l).length = (match lix k l with | some _ => l.length | none => l.length + 1)
  | [] => rfl
  | (a, b) :: r => by
    simp only [updL, lix]
    by_cases hk : k = a
    · simp [hk]
    · simp only [hk, if_false, List.length_cons, updL_len k x r]
      cases lix k r <;> rfl
theorem updL_at (k : Dg) (x : α) (d : Dg × α) : ∀ (l : List (Dg × α)) (j : Nat), (updL k x l).getD j d = if j = (lix k l).getD l.length then (k, x) else l.getD j d
  | [], j => by
    simp only [updL, lix, Option.getD_none, List.length_nil]
    cases j <;> simp
  | (a, b) :: r, j => by
    simp only [updL, lix]
    by_cases hk : k = a
    · simp only [hk, if_true, Option.getD_some]
      cases j <;> simp
    · simp only [hk, if_false]
      cases j with
      | zero =>
        simp only [List.getD_cons_zero, List.length_cons]
        rw [if_neg]
        cases lix k r <;> simp
      | succ j =>
        simp only [List.getD_cons_succ, updL_at k x d r j, List.length_cons]
        have e : ((lix k r).map (· + 1)).getD (r.length + 1) = (lix k r).getD r.length + 1 := by cases lix k r <;> rfl
        rw [e]
        simp only [Nat.add_right_cancel_iff]
theorem vupd_mpV (hh : Bool) (g : α → V) (d : α) (l : List (Dg × α)) (k : Dg) (x : α) (id : Nat) (H : Hp) : vupdB (.ar 32 1 false .int) hh (mpV g d l) (dg k) (g x) id H = ⟨hh = true ∧ (g x).solid = true, .tup .fnil, hset H id (mpV g d (updL k x l))⟩ := by
  have e : mpV g d (updL k x l) = .mp (match lix k l with | some _ => l.length | none => l.length + 1) (fun j => if j = (lix k l).getD l.length then dg k else dg (l.getD j (Dg.zero, d)).1) (fun j => if j = (lix k l).getD l.length then g x else g (l.getD j (Dg.zero, d)).2) := by
    simp only [mpV, updL_len, updL_at]
    congr 1
    · funext j; split <;> rfl
    · funext j; split <;> rfl
  rw [e]
  simp only [vupdB, mpV, mff_mpV, solid_dg, eq_true (veqP_dg true _ _), implies_true, and_true, true_and]
theorem ren_mpV (m : List Nat) (g : α → V) (hg : ∀ x, (g x).ren m = g x) (d : α) (l : List (Dg × α)) : (mpV g d l).ren m = mpV g d l := by
  simp only [mpV, V.ren, ren_dg, hg]
theorem NoIm_mpV (g : α → V) (hg : ∀ x, NoIm (g x)) (d : α) (l : List (Dg × α)) : NoIm (mpV g d l) := by
  simp only [mpV, NoIm, NoIm_dg', true_and]; exact fun i _ => hg _
theorem Sim_mpV (H : Hp) (m z : List Nat) (g : α → V) (hg : ∀ x, Sim H m z (g x) (g x)) (d : α) (l : List (Dg × α)) : Sim H m z (mpV g d l) (mpV g d l) := by
  simp only [mpV, Sim, true_and]; exact fun i _ => ⟨(Sim_dg _ _ _ _ _).mpr rfl, hg _⟩
theorem Sim_mp0 (H : Hp) (m z : List Nat) (g : α → V) (d : α) (ks vs : Nat → V) : Sim H m z (mpV g d []) (.mp 0 ks vs) := by
  simp only [mpV, Sim, List.length_nil, Nat.not_lt_zero, false_implies, implies_true, and_self]
end

/-- 64 bytes. -/
structure Pr where
  l : List (BitVec 8)
  h : l.length = 64
deriving DecidableEq
def Pr.at (d : Pr) (j : Nat) : BitVec 8 := d.l.getD j 0
def Pr.mk' (f : Nat → BitVec 8) : Pr := ⟨(List.range 64).map f, by simp⟩
theorem Pr.at_mk' (f : Nat → BitVec 8) (j : Nat) (hj : j < 64) : (Pr.mk' f).at j = f j := by
  simp [Pr.at, Pr.mk', List.getD, List.getElem?_map, List.getElem?_range hj]
theorem Pr.ext' {a b : Pr} (h : ∀ j, j < 64 → a.at j = b.at j) : a = b := by
  obtain ⟨l, hl⟩ := a
  obtain ⟨m, hm⟩ := b
  have : l = m := by
    apply List.ext_getElem (by omega)
    intro i h1 h2
    have := h i (by omega)
    simpa [Pr.at, List.getD, h1, h2] using this
  subst this; rfl
def Pr.zero : Pr := Pr.mk' fun _ => 0
theorem Pr.at_out (d : Pr) (j : Nat) (hj : ¬ j < 64) : d.at j = 0 := by
  rw [Pr.at, List.getD_eq_getElem?_getD, List.getElem?_eq_none (by rw [d.h]; omega)]; rfl
theorem Pr.at_zero (j : Nat) : Pr.zero.at j = 0 := by
  by_cases hj : j < 64
  · rw [Pr.zero, Pr.at_mk' _ _ hj]
  · exact Pr.at_out _ _ hj
def prV (p : Pr) : V := .ar 1 64 (fun j => B (p.at j))
theorem solid_prV (p : Pr) : (prV p).solid = true := rfl
theorem size_prV (p : Pr) : (prV p).size = 64 := rfl
theorem agg_prV (p : Pr) : (prV p).isAgg = true := rfl
theorem ren_prV (m : List Nat) (p : Pr) : (prV p).ren m = prV p := rfl
theorem NoIm_prV (p : Pr) : NoIm (prV p) = True := eq_true (by simp only [NoIm, prV, B, implies_true])
theorem Sim_prV (H : Hp) (m z : List Nat) (a b : Pr) : Sim H m z (prV a) (prV b) ↔ b = a := by
  simp only [Sim, prV, Sim_B, true_and]
  constructor
  · intro h; exact Pr.ext' (fun j hj => h j hj)
  · rintro rfl _ _; rfl
theorem SimV_prV (H : Hp) (m z : List Nat) (a : Pr) (u : V) : SimV H m z (prV a) u = Sim H m z (prV a) u := rfl
theorem get_prV (k : Nat) (p : Pr) : V.get [.i 1 k] (prV p) = B (p.at k) := rfl
theorem isAr_prV (p : Pr) : isAr 1 64 (prV p) = True := by simp [prV, isAr]
theorem veqP_prV (c : Bool) (a b : Pr) : veqP c (.ar 64 1 false .int) (prV a) (prV b) := by
  simp only [veqP, prV, true_and]
  intro i _
  refine ⟨rfl, rfl, ?_⟩
  simp only [B]
theorem veqV_prV (a b : Pr) : veqV (.ar 64 1 false .int) (prV a) (prV b) = decide (a = b) := by
  have h1 : veqV (.ar 64 1 false .int) (prV a) (prV b) = (List.range 64).all (fun i => decide (a.at i = b.at i)) := by
    simp only [veqV, prV, B, eqB]
  rw [h1, Bool.eq_iff_iff, List.all_eq_true]
  simp only [decide_eq_true_eq, List.mem_range]
  constructor
  · exact fun h => Pr.ext' h
  · rintro rfl _ _; rfl
theorem pr0 : V.ar 1 64 (fun _ => B 0#8) = prV Pr.zero := by
  have h : (fun _ => B 0#8) = fun j => B (Pr.zero.at j) := by funext j; rw [Pr.at_zero]; rfl
  simp only [prV, h]
theorem isAr_dg (d : Dg) : isAr 1 32 (dg d) = True := by simp [dg, isAr]
theorem elemsB_dg (o n sz : Nat) (d : Dg) : elemsB o n sz (dg d) = some (sz, n, fun i => B (d.at (o + i))) := rfl
theorem elemsC_dg (o n : Nat) (d : Dg) : elemsC o n 1 (dg d) = (o + n ≤ 32) := by simp [dg, elemsC]
theorem elemsB_prV (o n sz : Nat) (d : Pr) : elemsB o n sz (prV d) = some (sz, n, fun i => B (d.at (o + i))) := rfl
theorem elemsC_prV (o n : Nat) (d : Pr) : elemsC o n 1 (prV d) = (o + n ≤ 64) := by simp [prV, elemsC]
theorem Sim_mpPr (H : Hp) (m z : List Nat) (d : Pr) (l : List (Dg × Pr)) : Sim H m z (mpV prV d l) (mpV prV d l) = True := eq_true (Sim_mpV H m z prV (fun _ => (Sim_prV _ _ _ _ _).mpr rfl) d l)
theorem NoIm_mpPr (d : Pr) (l : List (Dg × Pr)) : NoIm (mpV prV d l) = True := eq_true (NoIm_mpV prV (fun x => by rw [NoIm_prV]; trivial) d l)
theorem ren_mpPr (m : List Nat) (d : Pr) (l : List (Dg × Pr)) : (mpV prV d l).ren m = mpV prV d l := ren_mpV m prV (fun _ => rfl) d l
theorem vlen_m (id : Nat) (H : Hp) : vlen 2 (.map id) H = (match hget H id with | .mp m _ _ => ⟨hhas H id = true, .int .i64 m, H⟩ | _ => bad H) := rfl
theorem tpc_prV (p : Pr) (i : Nat) (r : V) : tpc (prV p) i r = .fcons i (prV p) r := rfl
theorem tpp_prV (p : Pr) : tpp (prV p) = True := by simp [tpp, prV, V.solid]
end Mv
