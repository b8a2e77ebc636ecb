/- The prover: a machine whose accesses are noted. -/
import Derived.Test.YtncipgmjhaiagaaDoorT
import Derived.Test.YtncipgmjhaiagaaDoorW1
import Derived.Test.YtncipgmjhaiagaaDoorK7
import Derived.Test.YtncipgmjhaiagaaDoorY1
set_option linter.unusedSimpArgs false
set_option linter.unusedVariables false
namespace Mv
open Go
/-- (*moot/witness.Store).Copy -/
def c167 : LC := (.seq (.reg [A1 2 (.mv (.c .nilp))])
 ((.seq ((.seq (.reg [A1 3 (.mv (.t 0)),
  A1 4 (.eq false true .ptr (.t 3) (.c .nilp))])
 (.cond (.t 4) ((.seq (.reg [A1 2 (.mv (.c .nilp))])
 (.ret))) (.skip))))
 ((.seq (.regd [⟨0, 0, A1 5 (.mv (.t 0))⟩,
  ⟨1, 1, A1 6 (.nilc (.t 5))⟩,
  ⟨2, 3, A1 7 (.fadr 0 (.t 6))⟩,
  ⟨3, 7, A1 8 (.load false 1 (.t 7))⟩,
  ⟨4, 15, ⟨(some 9), .call 276 [(.t 8)], none⟩⟩,
  ⟨5, 0, A1 10 (.mv (.t 0))⟩,
  ⟨6, 32, A1 11 (.nilc (.t 10))⟩,
  ⟨7, 96, A1 12 (.fadr 1 (.t 11))⟩,
  ⟨8, 224, A1 13 (.load false 1 (.t 12))⟩,
  ⟨9, 0, A1 14 (.mkmap (.ar 32 (.int .u8)) .bool)⟩,
  ⟨10, 1023, A1 15 (.build (.st (.cons .map (.cons .ptr (.cons .map (.cons .slice .nil))))) [(.f 0, 1, (.t 9)), (.f 1, 1, (.t 13)), (.f 2, 1, (.t 14))])⟩,
  ⟨11, 2047, A1 16 (.box (.t 15))⟩,
  ⟨12, 4095, A1 2 (.mv (.t 16))⟩])
 (.ret))))))
def f167 : LF := ⟨c167, 1, 0, 17, [.tmp 2]⟩

/-- maps.Clone[map[moot/api.Hash]moot/api.Pre,moot/api.Hash,moot/api.Pre] -/
def c276 : LC := (.seq (.reg [A1 2 (.mv (.c .nilm))])
 ((.seq ((.seq (.reg [A1 3 (.mv (.t 0)),
  A1 4 (.eq false true (.nils 1) (.t 3) (.c .nilm))])
 (.cond (.t 4) ((.seq (.reg [A1 2 (.mv (.c .nilm))])
 (.ret))) (.skip))))
 ((.seq (.reg [A1 5 (.mv (.t 0)),
  A1 6 (.mkif 362 (.t 5)),
  A1 7 (.mclone (.t 6)),
  A1 8 (.tas 362 (.t 7)),
  A1 2 (.mv (.t 8))])
 (.ret))))))
def f276 : LF := ⟨c276, 1, 0, 9, [.tmp 2]⟩

end Mv
namespace Mv
open Go
set_option maxRecDepth 20000
set_option maxHeartbeats 4000000
set_option linter.unusedSimpArgs false

structure OkPr (M : Seat) : Prop where
  k167 : chkF M 167 f167 = true
  k276 : chkF M 276 f276 = true
  k595 : chkF M 595 f595 = true
  k596 : chkF M 596 f596 = true
  k597 : chkF M 597 f597 = true
  m0 : MethOK M 422 0 596
  m1 : MethOK M 422 1 597
  m2 : MethOK M 422 2 595
/-- A store as the prover has it; the prover. -/
def stP (va : V) : V := .st 4 (.fcons 0 (.map 3) (.fcons 1 (.ptr 4 []) (.fcons 2 (.map 5) (.fcons 3 va .fnil))))
def pvV (lv : V) (pre : Pr) : V := .st 67 (.fcons 0 (.ptr 1 []) (.fcons 1 (.ptr 2 []) (.fcons 2 lv (.fcons 3 (prV pre) .fnil))))
/-- The proof of a word. -/
def pfOf (f : Nat → BitVec 64) (a : BitVec 64) : Pf := ⟨f a.toNat, pth f a.toNat⟩
theorem pth_len (f : Nat → BitVec 64) (i : Nat) : (pth f i).length = 13 := by simp [pth]
theorem pth_get (f : Nat → BitVec 64) (i h : Nat) (hh : h < 13) : (pth f i).getD h Dg.zero = memN f h ((i / 2 ^ h) ^^^ 1) := by
  simp [pth, List.getD, hh]
theorem vmcl'_mpV {α : Type} (g : α → V) (d : α) (l : List (Dg × α)) (t id n : Nat) (H : Hp) : vmcl' (mpV g d l) t id n H = ⟨hhas H id = true, .ifc t (.map n), (n, mpV g d l) :: H⟩ := rfl
theorem eqP_km (c : Bool) (i : Nat) : veqP c (.nils 1) (.map i) .nilm = True := by simp [veqP]
theorem eqV_km (i : Nat) : veqV (.nils 1) (.map i) .nilm = false := rfl
theorem Sim_pfOf {H : Hp} {m z : List Nat} {id : Nat} (f : Nat → BitVec 64) (a : BitVec 64) (h1 : frz H z id = true) (h2 : hget H id = .ar 32 13 fun h => dg (memN f h (a.toNat / 2 ^ h ^^^ 1))) : Sim H m z (pfV (pfOf f a)) (.st 2 (.fcons 0 (W (f a.toNat)) (.fcons 1 (.sl id [] 0 13 32) .fnil))) := by
  simp only [pfV, pfOf, pth_len, Sim, W, true_and, and_true]
  refine ⟨h1, trivial, ?_⟩
  rw [h2]
  simp only [V.get]
  refine ⟨trivial, by omega, fun i hi => ?_⟩
  have : dgs (pth f a.toNat) i = dg (memN f i (a.toNat / 2 ^ i ^^^ 1)) := by rw [dgs, pth_get f _ _ hi]
  rw [this, Nat.zero_add]
  exact (Sim_dg _ _ _ _ _).mpr rfl

theorem runs_mapsClone {M : Seat} (ok : OkPr M) (l : List (Dg × Pr)) :
    Runs M 276 [.map 0] [(0, mpV prV Pr.zero l)] 1 (fun r H' k' => r = .map 1 ∧ H' = [(0, mpV prV Pr.zero l), (1, mpV prV Pr.zero l)] ∧ k' = 2) := by
  refine runs_fr ok.k276 rfl fun x hx => ?_
  refine ex_sound 2000 _ _ _ _ ?_; (simp (maxSteps := 4000000) only [f276, c276, eqP_km, eqV_km, vmcl'_mpV, LZ, seval, reduceCtorEq, forall_const])
  refine RetS.mk hx [0, 81] [] _ _ _ (by decide) (by (simp only [LV, LMS, LZ, seval, reduceCtorEq, forall_const])) (by ((try simp only [LV, LMS, LZ, seval, reduceCtorEq, forall_const, LY, seval, reduceCtorEq, implies_true]); first | done | exact True.intro | (intros; rfl))) (by ((try simp only [LMS, LY, seval, reduceCtorEq, implies_true]); first | done | exact True.intro | (intros; rfl))) ⟨rfl, rfl, rfl⟩

theorem runs_prR0N {M : Seat} (okA : OkM M) (ok : OkPr M) (f g : Nat → BitVec 64) (pc : BitVec 64) (hl : Bool) (xt : BitVec 64) (pre : Pr) (pres : List (Dg × Pr)) (q : Nat) (a : BitVec 64) (ha : ¬ 8192#64 ≤ a) :
    Runs M 596 [.ptr 0 [], W a] [(0, pvV .nils pre), (1, mach f g pc hl xt), (2, stP (.nils)), (3, mpV prV Pr.zero pres)] 6
      (fun r H' k' => r = tup2 (W (f a.toNat)) .nili ∧ H' = [(0, pvV (.sl 6 [] 0 1 2) pre), (1, mach f g pc hl xt), (2, stP (.nils)), (3, mpV prV Pr.zero pres), (6, .ar 2 1 (pfs [pfOf f a]))] ∧ k' = 7) := by
  refine runs_fr ok.k596 rfl fun x hx => ?_
  refine ex_sound 2000 _ _ _ _ ?_; (simp (maxSteps := 4000000) only [f596, c596, pvV, LZ, seval, reduceCtorEq, forall_const])
  refine call_fA (runs_Prove okA f g pc hl xt a.toNat (pfl a ha)) (by decide) (by ((try simp only [W, mach, LY, seval, reduceCtorEq, implies_true]); first | done | exact True.intro | rfl)) (by simp only [W, mach, LX, implies_true]) (by simp only [W, mach, LX, implies_true]) ?_
  (simp (maxSteps := 4000000) only [tup2, LZ, seval, reduceCtorEq, forall_const])
  refine RetS.mk hx [0, 1, 2, 3, 4, 5, 502] [118] (tup2 (W (f a.toNat)) .nili) [(0, pvV (.sl 6 [] 0 1 2) pre), (1, mach f g pc hl xt), (2, stP (.nils)), (3, mpV prV Pr.zero pres), (6, .ar 2 1 (pfs [pfOf f a]))] 7 (by decide) (by (simp only [LV, LZ, seval, reduceCtorEq, forall_const])) (by (simp only [LV, LZ, seval, reduceCtorEq, forall_const, LY, seval, reduceCtorEq, implies_true])) ?_ ⟨rfl, rfl, rfl⟩
  simp only [pvV, stP, LMS, LY, seval, reduceCtorEq, implies_true, true_and, and_true]
  intro i hi
  obtain rfl : i = 0 := by omega
  exact Sim_pfOf f a (by rfl) rfl
theorem runs_prRN {M : Seat} (okA : OkM M) (ok : OkPr M) (f g : Nat → BitVec 64) (pc : BitVec 64) (hl : Bool) (xt : BitVec 64) (pre : Pr) (pres : List (Dg × Pr)) (q : Nat) (l : List Pf) (hL : l.length ≤ 100) (a : BitVec 64) (ha : ¬ 8192#64 ≤ a) :
    Runs M 596 [.ptr 0 [], W a] [(0, pvV (.sl 6 [] 0 l.length 2) pre), (1, mach f g pc hl xt), (2, stP (.nils)), (3, mpV prV Pr.zero pres), (6, .ar 2 l.length (pfs l))] 7
      (fun r H' k' => r = tup2 (W (f a.toNat)) .nili ∧ H' = [(0, pvV (.sl 7 [] 0 (l ++ [pfOf f a]).length 2) pre), (1, mach f g pc hl xt), (2, stP (.nils)), (3, mpV prV Pr.zero pres), (7, .ar 2 (l ++ [pfOf f a]).length (pfs (l ++ [pfOf f a])))] ∧ k' = 7 + 1) := by
  refine runs_fr ok.k596 rfl fun x hx => ?_
  refine ex_sound 2000 _ _ _ _ ?_; (simp (maxSteps := 4000000) only [f596, c596, pvV, LZ, seval, reduceCtorEq, forall_const])
  refine call_fA (runs_Prove okA f g pc hl xt a.toNat (pfl a ha)) (by decide) (by ((try simp only [W, mach, Sim_pfs, LY, seval, reduceCtorEq, implies_true]); first | done | exact True.intro | rfl)) (by simp only [W, mach, Sim_pfs, LX, implies_true]) (by simp only [W, mach, Sim_pfs, LX, implies_true]) ?_
  (simp (maxSteps := 4000000) only [tup2, LZ, seval, reduceCtorEq, forall_const])
  repeat (refine And.intro (by first | omega | exact True.intro | rfl) ?_)
  refine RetS.mk hx [0, 1, 2, 3, 4, 5, 6, 503] [119] (tup2 (W (f a.toNat)) .nili) [(0, pvV (.sl 7 [] 0 (l ++ [pfOf f a]).length 2) pre), (1, mach f g pc hl xt), (2, stP (.nils)), (3, mpV prV Pr.zero pres), (7, .ar 2 (l ++ [pfOf f a]).length (pfs (l ++ [pfOf f a])))] 8 (by decide) (by (simp only [LV, LZ, seval, reduceCtorEq, forall_const])) (by (simp only [LV, LZ, seval, reduceCtorEq, forall_const, LY, seval, reduceCtorEq, implies_true])) ?_ ⟨rfl, rfl, rfl⟩
  have e0 : (l ++ [pfOf f a]).length = l.length + 1 := by simp
  simp only [e0, pvV, stP, LMS, LY, seval, reduceCtorEq, implies_true, true_and, and_true]
  intro i hi
  by_cases h : i < l.length
  · rw [if_pos h]
    have : pfs (l ++ [pfOf f a]) i = pfs l i := by simp only [pfs, List.getD_eq_getElem?_getD, List.getElem?_append_left h]
    rw [this]; exact (Sim_pfs _ _ _ _ _).mpr trivial
  · obtain rfl : i = l.length := by omega
    have : pfs (l ++ [pfOf f a]) l.length = pfV (pfOf f a) := by simp only [pfs, List.getD_eq_getElem?_getD, List.getElem?_append_right (Nat.le_refl _), Nat.sub_self]; rfl
    rw [if_neg h, Nat.sub_self, if_pos rfl, this]
    exact Sim_pfOf f a (by rfl) rfl
theorem runs_prWN {M : Seat} (okA : OkM M) (ok : OkPr M) (f g : Nat → BitVec 64) (pc : BitVec 64) (hl : Bool) (xt : BitVec 64) (pre : Pr) (pres : List (Dg × Pr)) (q : Nat) (l : List Pf) (hL : l.length ≤ 100) (a v : BitVec 64) (ha : ¬ 8192#64 ≤ a) :
    Runs M 597 [.ptr 0 [], W a, W v] [(0, pvV (.sl 6 [] 0 l.length 2) pre), (1, mach f g pc hl xt), (2, stP (.nils)), (3, mpV prV Pr.zero pres), (6, .ar 2 l.length (pfs l))] 7
      (fun r H' k' => r = .nili ∧ H' = [(0, pvV (.sl 7 [] 0 (l ++ [pfOf f a]).length 2) pre), (1, mach (upd f a.toNat v) g pc hl xt), (2, stP (.nils)), (3, mpV prV Pr.zero pres), (7, .ar 2 (l ++ [pfOf f a]).length (pfs (l ++ [pfOf f a])))] ∧ k' = 7 + 1) := by
  refine runs_fr ok.k597 rfl fun x hx => ?_
  have ha' := pfl a ha
  have hR := runs_prRN okA ok f g pc hl xt pre pres q l hL a ha
  generalize l ++ [pfOf f a] = l' at *
  refine ex_sound 2000 _ _ _ _ ?_; (simp (maxSteps := 4000000) only [f597, c597, LZ, seval, reduceCtorEq, forall_const])
  refine call_mN [0, 1, 2, 3, 4, 5, 6] [0, 1, 2, 3, 6] (hR) (by rfl) (by rfl) (by decide) (by rfl) (by rfl) (by ((try simp only [pvV, stP, mach, Sim_pfs, LMS, LY, seval, reduceCtorEq, implies_true]); first | done | exact True.intro | rfl)) (by ((try simp only [pvV, stP, mach, Sim_pfs, LMS, LY, seval, reduceCtorEq, implies_true]); first | done | exact True.intro | rfl)) ?_
  (simp (maxSteps := 4000000) only [tup2, pvV, stP, mach, ren_pfs, LM, LZ, seval, reduceCtorEq, forall_const])
  repeat (refine And.intro (by first | omega | exact True.intro | rfl) ?_)
  refine RetS.mk hx [0, 1, 2, 3, 4, 5, 6, 55] [] _ _ _ (by decide) (by (simp only [LV, upd, ite_W, Sim_pfs, LMS, LZ, seval, reduceCtorEq, forall_const])) (by ((try simp only [LV, upd, ite_W, Sim_pfs, LMS, LZ, seval, reduceCtorEq, forall_const, LY, seval, reduceCtorEq, implies_true]); first | done | exact True.intro | (intros; rfl))) (by ((try simp only [upd, ite_W, Sim_pfs, LMS, LY, seval, reduceCtorEq, implies_true]); first | done | exact True.intro | (intros; rfl))) ⟨rfl, rfl, rfl⟩
theorem runs_stoCopyN {M : Seat} (ok : OkPr M) (q : Nat) (pres : List (Dg × Pr)) :
    Runs M 167 [.ptr 0 []] [(0, .st 4 (.fcons 0 (.map 1) (.fcons 1 (.ptr 2 []) (.fcons 2 (.map 3) (.fcons 3 (.nils) .fnil))))), (1, mpV prV Pr.zero pres)] 4
      (fun r H' k' => r = .ptr 4 [] ∧ H' = [(0, .st 4 (.fcons 0 (.map 1) (.fcons 1 (.ptr 2 []) (.fcons 2 (.map 3) (.fcons 3 (.nils) .fnil))))), (1, mpV prV Pr.zero pres), (4, .st 4 (.fcons 0 (.map 5) (.fcons 1 (.ptr 2 []) (.fcons 2 (.map 6) (.fcons 3 .nils .fnil))))), (5, mpV prV Pr.zero pres), (6, seenV [])] ∧ k' = 7) := by
  refine runs_fr ok.k167 rfl fun x hx => ?_
  refine ex_sound 2000 _ _ _ _ ?_; (simp (maxSteps := 4000000) only [f167, c167, LZ, seval, reduceCtorEq, forall_const])
  refine opd_mA [1] (runs_mapsClone ok pres) (by decide) (by rfl) (by ((try simp only [LMS, LY, seval, reduceCtorEq, implies_true]); first | done | exact True.intro | rfl)) (by ((try simp only [LMS, LY, seval, reduceCtorEq, implies_true]); first | done | exact True.intro | rfl)) (by simp only [LMS, LX, implies_true]) (by simp only [LMS, LX, implies_true]) ?_
  (simp (maxSteps := 4000000) only [LM, LZ, seval, reduceCtorEq, forall_const])
  refine RetS.mk hx [0, 1, 2, 3, 228, 324, 196] [] _ _ _ (by decide) (by (simp only [LV, seenV, LMS, LZ, seval, reduceCtorEq, forall_const])) (by ((try simp only [LV, seenV, LMS, LZ, seval, reduceCtorEq, forall_const, LY, seval, reduceCtorEq, implies_true]); first | done | exact True.intro | (intros; rfl))) (by ((try simp only [seenV, LMS, LY, seval, reduceCtorEq, implies_true]); first | done | exact True.intro | (intros; rfl))) ⟨rfl, rfl, rfl⟩
theorem runs_GetC {M : Seat} (ok : OkO M) (pres : List (Dg × Pr)) (h : Dg) :
    Runs M 328 [.ptr 0 [], dg h] [(0, .st 4 (.fcons 0 (.map 1) (.fcons 1 (.ptr 2 []) (.fcons 2 (.map 3) (.fcons 3 .nils .fnil))))), (1, mpV prV Pr.zero pres), (3, seenV [])] 4
      (fun r H' k' => r = getR (lkp h pres) ∧ H' = [(1, mpV prV Pr.zero pres)] ∧ k' = 4) := by
  have hsv : ∀ l : List (Dg × Bool), mpV V.bool false l = seenV l := fun _ => rfl
  have hn : lkp h ([] : List (Dg × Bool)) = none := rfl
  refine runs_fr ok.k328 rfl fun x hx => ?_
  generalize ho : lkp h pres = o at *
  cases o
  all_goals refine ex_sound 2000 _ _ _ _ ?_; (simp (maxSteps := 4000000) only [f328, c328, seenV, ho, hn, LM, LZ, seval, reduceCtorEq, forall_const])
  all_goals refine RetS.mk hx [0, 1, 2, 3] [] (getR _) [(1, mpV prV Pr.zero pres)] 4 (by decide) (by simp only [res, resPs, resP, resV, tup2, LTP, LM, LZ, seval, reduceCtorEq, forall_const]) (by simp only [res, resPs, resP, resV, getR, tup2, LTP, LM, LZ, seval, reduceCtorEq, forall_const]; simp only [prV, Pr.at_zero, LMS, LY, seval, reduceCtorEq, implies_true]; try exact fun _ _ => rfl) ?_ ⟨rfl, rfl, rfl⟩
  all_goals simp only [LMS, LY, seval, reduceCtorEq, implies_true]

/-- What the prover's third method does. -/
def pgR (o : Option Pr) : V := match o with
  | some p => tup2 (prV p) .nili
  | none => tup2 (prV Pr.zero) (.ifc 74 (.int .i64 14))
def pgP (o : Option Pr) : Pr := match o with
  | some p => p
  | none => Pr.zero
theorem runs_prPN {M : Seat} (ok : OkPr M) (okO : OkO M) (f g : Nat → BitVec 64) (pc : BitVec 64) (hl : Bool) (xt : BitVec 64) (pre : Pr) (pres : List (Dg × Pr)) (q : Nat) (l : List Pf) (h : Dg) :
    Runs M 595 [.ptr 0 [], dg h] [(0, pvV (.sl 6 [] 0 l.length 2) pre), (1, mach f g pc hl xt), (2, stP (.nils)), (3, mpV prV Pr.zero pres), (6, .ar 2 l.length (pfs l))] 7
      (fun r H' k' => r = pgR (lkp h pres) ∧ H' = [(0, pvV (.sl 6 [] 0 l.length 2) (pgP (lkp h pres))), (1, mach f g pc hl xt), (2, stP (.nils)), (3, mpV prV Pr.zero pres), (6, .ar 2 l.length (pfs l))] ∧ k' = 7) := by
  refine runs_fr ok.k595 rfl fun x hx => ?_
  have hC := runs_stoCopyN ok q pres
  have hG := runs_GetC okO pres h
  refine ex_sound 2000 _ _ _ _ ?_; (simp (maxSteps := 4000000) only [f595, c595, pvV, LZ, seval, reduceCtorEq, forall_const])
  refine opd_mN [2, 3, 4, 5] [2, 3] (hC) (by rfl) (by rfl) (by decide) (by rfl) (by rfl) (by ((try simp only [stP, LMS, LY, seval, reduceCtorEq, implies_true]); first | done | exact True.intro | rfl)) (by ((try simp only [stP, LMS, LY, seval, reduceCtorEq, implies_true]); first | done | exact True.intro | rfl)) ?_
  (simp (maxSteps := 4000000) only [stP, ren_seen, LM, LZ, seval, reduceCtorEq, forall_const])
  cases ho : lkp h pres with
  | none =>
    rw [ho] at hG
    simp only [getR] at hG
    refine opd_mN [327, 328, 4, 329] [327, 328, 329] (hG) (by rfl) (by rfl) (by decide) (by rfl) (by rfl) (by ((try simp only [Sim_seen, LMS, LY, seval, reduceCtorEq, implies_true]); first | done | exact True.intro | rfl)) (by ((try simp only [Sim_seen, LMS, LY, seval, reduceCtorEq, implies_true]); first | done | exact True.intro | rfl)) ?_
    (simp (maxSteps := 4000000) only [LM, pr0, tup2, LZ, seval, reduceCtorEq, forall_const])
    refine RetS.mk hx [0, 1, 2, 3, 4, 5, 6] [] _ _ _ (by decide) (by (simp only [LV, pgR, pgP, ren_pfs, Sim_pfs, stP, prV, Pr.at_zero, LM, LMS, LZ, seval, reduceCtorEq, forall_const])) (by ((try simp only [LV, pgR, pgP, ren_pfs, Sim_pfs, stP, prV, Pr.at_zero, LM, LMS, LZ, seval, reduceCtorEq, forall_const, LY, seval, reduceCtorEq, implies_true]); first | done | exact True.intro | (intros; rfl))) (by ((try simp only [pgR, pgP, ren_pfs, Sim_pfs, stP, prV, Pr.at_zero, LM, LMS, LY, seval, reduceCtorEq, implies_true]); first | done | exact True.intro | (intros; rfl))) ⟨rfl, rfl, rfl⟩
  | some p =>
    rw [ho] at hG
    simp only [getR] at hG
    refine opd_mN [327, 328, 4, 329] [327, 328, 329] (hG) (by rfl) (by rfl) (by decide) (by rfl) (by rfl) (by ((try simp only [Sim_seen, LMS, LY, seval, reduceCtorEq, implies_true]); first | done | exact True.intro | rfl)) (by ((try simp only [Sim_seen, LMS, LY, seval, reduceCtorEq, implies_true]); first | done | exact True.intro | rfl)) ?_
    (simp (maxSteps := 4000000) only [LM, pr0, tup2, LZ, seval, reduceCtorEq, forall_const])
    refine RetS.mk hx [0, 1, 2, 3, 4, 5, 6] [] _ _ _ (by decide) (by (simp only [LV, pgR, pgP, ren_pfs, Sim_pfs, stP, LM, LMS, LZ, seval, reduceCtorEq, forall_const])) (by ((try simp only [LV, pgR, pgP, ren_pfs, Sim_pfs, stP, LM, LMS, LZ, seval, reduceCtorEq, forall_const, LY, seval, reduceCtorEq, implies_true]); first | done | exact True.intro | (intros; rfl))) (by ((try simp only [pgR, pgP, ren_pfs, Sim_pfs, stP, LM, LMS, LY, seval, reduceCtorEq, implies_true]); first | done | exact True.intro | (intros; rfl))) ⟨rfl, rfl, rfl⟩
end Mv
namespace Mv
open Go
set_option maxRecDepth 20000
set_option maxHeartbeats 4000000
set_option linter.unusedSimpArgs false

/-- The prover's state, what its methods do; the same over memory alone. -/
structure Ps where
  f : Nat → BitVec 64
  l : List Pf
  pre : Pr
def prR (s : Ps) (a : BitVec 64) : BitVec 64 × Option Int × Ps := (s.f a.toNat, none, ⟨s.f, s.l ++ [pfOf s.f a], s.pre⟩)
def prW (s : Ps) (a v : BitVec 64) : Option Int × Ps := (none, ⟨upd s.f a.toNat v, s.l ++ [pfOf s.f a], s.pre⟩)
def prP (pres : List (Dg × Pr)) (s : Ps) (h : Dg) : Pr × Option Int × Ps := match lkp h pres with
  | some p => (p, none, ⟨s.f, s.l, p⟩)
  | none => (Pr.zero, some 14, ⟨s.f, s.l, Pr.zero⟩)
def prM (pres : List (Dg × Pr)) : Mm Ps := ⟨prR, prW, prP pres⟩

theorem Own.no {b n i : Nat} {own : Hp} (ho : Own b n own) (h : i < 17 ∨ i = b ∨ n ≤ i) : hhas own i = false := by
  cases hh : hhas own i with
  | false => rfl
  | true => have := ho i hh; omega
def pEN (g : Nat → BitVec 64) (pc : BitVec 64) (hl : Bool) (xt : BitVec 64) (pres : List (Dg × Pr)) (q : Nat) (s : Ps) (b : Nat) : Hp :=
  [(0, pvV (.sl b [] 0 s.l.length 2) s.pre), (1, mach s.f g pc hl xt), (2, stP (.nils)), (3, mpV prV Pr.zero pres), (b, .ar 2 s.l.length (pfs s.l))]
def pZN (g : Nat → BitVec 64) (pc : BitVec 64) (hl : Bool) (xt : BitVec 64) (pres : List (Dg × Pr)) (q : Nat) (s : Ps) : Hp :=
  [(0, pvV .nils s.pre), (1, mach s.f g pc hl xt), (2, stP (.nils)), (3, mpV prV Pr.zero pres)]
theorem pEN_sim (g : Nat → BitVec 64) (pc : BitVec 64) (hl : Bool) (xt : BitVec 64) (pres : List (Dg × Pr)) (q : Nat) (s : Ps) (b b' : Nat) (H : Hp) (m z : List Nat) (hm : ∀ i, i < 6 → m[i]? = some i) (hb : m[b']? = some b)
    (hH : ∀ i, hhas (pEN g pc hl xt pres q s b) i = true → hhas H i = true ∧ hget H i = hget (pEN g pc hl xt pres q s b) i) (hk : 6 ≤ b) : SimH H m z (pEN g pc hl xt pres q s b') := by
  have n0 : ¬ 0 = b := by omega
  have n1 : ¬ 1 = b := by omega
  have n2 : ¬ 2 = b := by omega
  have n3 : ¬ 3 = b := by omega
  have h0 := hH 0 rfl
  have h1 := hH 1 rfl
  have h2 := hH 2 rfl
  have h3 := hH 3 rfl
  have h4 := hH b (by simp [pEN, hhas])
  have g4 : hget (pEN g pc hl xt pres q s b) b = .ar 2 s.l.length (pfs s.l) := by simp only [pEN, hget, n0, n1, n2, n3, if_false, if_true]
  rw [g4] at h4
  simp only [pEN, hget, if_true, seval] at h0 h1 h2 h3
  simp only [pEN, SimH, hm 0 (by omega), hm 1 (by omega), hm 2 (by omega), hm 3 (by omega), hb, h0, h1, h2, h3, h4, true_and, and_true]
  refine ⟨?_, Sim_mach .., ?_, ?_, ?_⟩
  · simp only [pvV, Sim, hm 1 (by omega), hm 2 (by omega), hb, true_and, and_true, Sim_prV]
  · simp only [stP, Sim, hm 3 (by omega), hm 4 (by omega), hm 5 (by omega), true_and, and_true]
    try exact hm 6 (by omega)
  · exact Sim_mpV H m z prV (fun x => (Sim_prV H m z x x).mpr rfl) Pr.zero pres
  · simp only [Sim, true_and]
    exact fun i _ => (Sim_pfs H m z s.l i).mpr trivial
theorem pZN_sim (g : Nat → BitVec 64) (pc : BitVec 64) (hl : Bool) (xt : BitVec 64) (pres : List (Dg × Pr)) (q : Nat) (s : Ps) (H : Hp) (m z : List Nat) (hm : ∀ i, i < 6 → m[i]? = some i)
    (hH : ∀ i, hhas (pZN g pc hl xt pres q s) i = true → hhas H i = true ∧ hget H i = hget (pZN g pc hl xt pres q s) i) : SimH H m z (pZN g pc hl xt pres q s) := by
  have h0 := hH 0 rfl
  have h1 := hH 1 rfl
  have h2 := hH 2 rfl
  have h3 := hH 3 rfl
  simp only [pZN, hget, if_true, seval] at h0 h1 h2 h3
  simp only [pZN, SimH, hm 0 (by omega), hm 1 (by omega), hm 2 (by omega), hm 3 (by omega), h0, h1, h2, h3, true_and, and_true]
  refine ⟨?_, Sim_mach .., ?_, ?_⟩
  · simp only [pvV, Sim, hm 1 (by omega), hm 2 (by omega), true_and, and_true, Sim_prV]
  · simp only [stP, Sim, hm 3 (by omega), hm 4 (by omega), hm 5 (by omega), true_and, and_true]
    try exact hm 6 (by omega)
  · exact Sim_mpV H m z prV (fun x => (Sim_prV H m z x x).mpr rfl) Pr.zero pres
theorem pEN_ids (g : Nat → BitVec 64) (pc : BitVec 64) (hl : Bool) (xt : BitVec 64) (pres : List (Dg × Pr)) (q : Nat) (s : Ps) (b i : Nat) (h : hhas (pEN g pc hl xt pres q s b) i = true) : i < 4 ∨ i = b := by
  simp only [pEN, hhas, Bool.or_eq_true, beq_iff_eq, Bool.or_false] at h; omega
theorem pZN_ids (g : Nat → BitVec 64) (pc : BitVec 64) (hl : Bool) (xt : BitVec 64) (pres : List (Dg × Pr)) (q : Nat) (s : Ps) (i : Nat) (h : hhas (pZN g pc hl xt pres q s) i = true) : i < 4 := by
  simp only [pZN, hhas, Bool.or_eq_true, beq_iff_eq, Bool.or_false] at h; omega
theorem pEN_rest (g : Nat → BitVec 64) (pc : BitVec 64) (hl : Bool) (xt : BitVec 64) (pres : List (Dg × Pr)) (q : Nat) (s : Ps) (b : Nat) (hb : 6 ≤ b) : hrest (pEN g pc hl xt pres q s b) [0, 1, 2, 3, b] = [] := by
  have n0 : ¬ b = 0 := by omega
  have n1 : ¬ b = 1 := by omega
  have n2 : ¬ b = 2 := by omega
  have n3 : ¬ b = 3 := by omega
  have n0' : ¬ 0 = b := by omega
  have n1' : ¬ 1 = b := by omega
  have n2' : ¬ 2 = b := by omega
  have n3' : ¬ 3 = b := by omega
  simp only [hrest, pEN, hdel, n0, n1, n2, n3, n0', n1', n2', n3', if_true, if_false, seval, reduceCtorEq]
theorem pEN_nd {b : Nat} (hb : 6 ≤ b) : ([0, 1, 2, 3, 4, 5, b] : List Nat).Nodup := by
  rw [show ([0, 1, 2, 3, 4, 5, b] : List Nat) = [0, 1, 2, 3, 4, 5] ++ [b] from rfl, List.nodup_append]
  refine ⟨by decide, by simp, fun a ha c hc => ?_⟩
  simp only [List.mem_cons, List.not_mem_nil, or_false] at ha hc
  omega
/-- The prover as a memory. -/
def prIN {M : Seat} (okA : OkM M) (okO : OkO M) (ok : OkPr M) (g : Nat → BitVec 64) (pc : BitVec 64) (hl : Bool) (xt : BitVec 64) (pres : List (Dg × Pr)) (q : Nat) : MemI M where
  σ := Ps
  t := 422
  ht := .inl rfl
  k0 := 6
  kk := 7
  hk := by omega
  E s b := pEN g pc hl xt pres q s b
  E0 s := pZN g pc hl xt pres q s
  mm := prM pres
  Z s := s.l = []
  len s := s.l.length
  lr s a := by simp [prM, prR]
  lw s a v := by simp [prM, prW]
  lp s h := by show (prP pres s h).2.2.l.length ≤ _; unfold prP; split <;> exact Nat.le_refl _
  lz s h := by simp [h]
  hids s b i h := by rcases pEN_ids g pc hl xt pres q s b i h with h | h <;> omega
  hids0 s i h := by have := pZN_ids g pc hl xt pres q s i h; omega
  sim0 s H m z hm hH := pZN_sim g pc hl xt pres q s H m z hm hH
  simE s b b' H m z hk hm hb hH := pEN_sim g pc hl xt pres q s b b' H m z hm hb hH hk
  c0 {f us us' v s s'} own {n K} hr hus hv ho hK := by
    refine call_own (E' := pEN g pc hl xt pres q s' n) [0, 1, 2, 3, 4, 5] [0, 1, 2, 3] hr ?_ (by simp) (by decide) ⟨rfl, by omega⟩ (fun i hi => ?_) ?_ (hus _ _ _ rfl) (pZN_sim g pc hl xt pres q s _ _ _ (fun i hi => ?_) (own_tail fun i hi => ho.no (by have := pZN_ids g pc hl xt pres q s i hi; omega))) rfl rfl hv (fun i hi => ?_) hK
    · intro id i h1 h2
      have h := pZN_ids g pc hl xt pres q s id h1
      have : id = 0 ∨ id = 1 ∨ id = 2 ∨ id = 3 := by omega
      rcases this with rfl | rfl | rfl | rfl <;> (obtain rfl := Option.some.inj h2; simp)
    · simp only [List.mem_cons, List.not_mem_nil, or_false] at hi
      rcases hi with rfl | rfl | rfl | rfl <;> exact ⟨rfl, ho.no (by omega)⟩
    · exact fun i hi => by
        have h : ([0, 1, 2, 3, 4, 5] : List Nat).all (fun i => hhas (pZN g pc hl xt pres q s) i || inHp [0, 1, 2, 3] (pZN g pc hl xt pres q s) i) = true := by rfl
        have := List.all_eq_true.1 h i hi
        simpa using this
    · have : i = 0 ∨ i = 1 ∨ i = 2 ∨ i = 3 ∨ i = 4 ∨ i = 5 ∨ (i = 6 ∧ 6 = 7) := by omega
      rcases this with rfl | rfl | rfl | rfl | rfl | rfl | ⟨rfl, h⟩ <;> first | rfl | omega
    · rcases pEN_ids g pc hl xt pres q s' n i hi with h | h <;> exact ho.no (by omega)
  ck {f us us' v s s' b} own {n K} hr hus hv hb ho hK := by
    have hids : ∀ i, i ∈ ([0, 1, 2, 3, b] : List Nat) → hhas (pEN g pc hl xt pres q s b) i = true ∧ hhas own i = false := fun i hi => by
      simp only [List.mem_cons, List.not_mem_nil, or_false] at hi
      rcases hi with rfl | rfl | rfl | rfl | rfl
      · exact ⟨rfl, ho.no (by omega)⟩
      · exact ⟨rfl, ho.no (by omega)⟩
      · exact ⟨rfl, ho.no (by omega)⟩
      · exact ⟨rfl, ho.no (by omega)⟩
      · exact ⟨by simp [pEN, hhas], ho.no (by omega)⟩
    refine call_own (E' := pEN g pc hl xt pres q s' n) [0, 1, 2, 3, 4, 5, b] [0, 1, 2, 3, b] hr ?_ (by simp) (pEN_nd hb) ⟨rfl, by omega⟩ hids ?_ (hus _ _ _ rfl) (pEN_sim g pc hl xt pres q s b 6 _ _ _ (fun i hi => ?_) rfl (own_tail fun i hi => ho.no (by have := pEN_ids g pc hl xt pres q s b i hi; omega)) hb) rfl (pEN_rest g pc hl xt pres q s b hb) hv (fun i hi => ?_) hK
    · intro id i h1 h2
      have h := pEN_ids g pc hl xt pres q s 6 id h1
      have : id = 0 ∨ id = 1 ∨ id = 2 ∨ id = 3 ∨ id = 6 := by omega
      rcases this with rfl | rfl | rfl | rfl | rfl <;> (obtain rfl := Option.some.inj h2; simp)
    · intro i hi
      by_cases h5 : i ∈ ([0, 1, 2, 3, b] : List Nat)
      · exact .inl (hids i h5).1
      · right
        have hj : i = 4 ∨ i = 5 ∨ (i = 6 ∧ 6 = 7) := by
          simp only [List.mem_cons, List.not_mem_nil, or_false] at hi h5
          omega
        refine List.any_eq_true.2 ⟨2, by simp, ?_⟩
        rcases hj with rfl | rfl | ⟨rfl, h⟩ <;> first | rfl | omega
    · have : i = 0 ∨ i = 1 ∨ i = 2 ∨ i = 3 ∨ i = 4 ∨ i = 5 ∨ (i = 6 ∧ 6 = 7) := by omega
      rcases this with rfl | rfl | rfl | rfl | rfl | rfl | ⟨rfl, h⟩ <;> first | rfl | omega
    · rcases pEN_ids g pc hl xt pres q s' n i hi with h | h <;> exact ho.no (by omega)
  cu {f us us' v s s' b} own {n K} hr hus hv hb ho hK := by
    have hids : ∀ i, i ∈ ([0, 1, 2, 3, b] : List Nat) → hhas (pEN g pc hl xt pres q s b) i = true ∧ hhas own i = false := fun i hi => by
      simp only [List.mem_cons, List.not_mem_nil, or_false] at hi
      rcases hi with rfl | rfl | rfl | rfl | rfl
      · exact ⟨rfl, ho.no (by omega)⟩
      · exact ⟨rfl, ho.no (by omega)⟩
      · exact ⟨rfl, ho.no (by omega)⟩
      · exact ⟨rfl, ho.no (by omega)⟩
      · exact ⟨by simp [pEN, hhas], ho.no (by omega)⟩
    refine call_own (E' := pEN g pc hl xt pres q s' b) [0, 1, 2, 3, 4, 5, b] [0, 1, 2, 3, b] hr ?_ (by simp) (pEN_nd hb) ⟨rfl, by omega⟩ hids ?_ (hus _ _ _ rfl) (pEN_sim g pc hl xt pres q s b 6 _ _ _ (fun i hi => ?_) rfl (own_tail fun i hi => ho.no (by have := pEN_ids g pc hl xt pres q s b i hi; omega)) hb) rfl (pEN_rest g pc hl xt pres q s b hb) hv (fun i hi => ?_) hK
    · intro id i h1 h2
      have h := pEN_ids g pc hl xt pres q s 6 id h1
      have : id = 0 ∨ id = 1 ∨ id = 2 ∨ id = 3 ∨ id = 6 := by omega
      rcases this with rfl | rfl | rfl | rfl | rfl <;> (obtain rfl := Option.some.inj h2; simp)
    · intro i hi
      by_cases h5 : i ∈ ([0, 1, 2, 3, b] : List Nat)
      · exact .inl (hids i h5).1
      · right
        have hj : i = 4 ∨ i = 5 ∨ (i = 6 ∧ 6 = 7) := by
          simp only [List.mem_cons, List.not_mem_nil, or_false] at hi h5
          omega
        refine List.any_eq_true.2 ⟨2, by simp, ?_⟩
        rcases hj with rfl | rfl | ⟨rfl, h⟩ <;> first | rfl | omega
    · have : i = 0 ∨ i = 1 ∨ i = 2 ∨ i = 3 ∨ i = 4 ∨ i = 5 ∨ (i = 6 ∧ 6 = 7) := by omega
      rcases this with rfl | rfl | rfl | rfl | rfl | rfl | ⟨rfl, h⟩ <;> first | rfl | omega
    · rcases pEN_ids g pc hl xt pres q s' b i hi with h | h <;> exact ho.no (by omega)
  fr := 596
  fw := 597
  fp := 595
  mr := ok.m0
  mw := ok.m1
  mp := ok.m2
  rr0 s a hz ha := by
    obtain ⟨f, l, pre⟩ := s
    have hz : l = [] := hz
    subst hz
    exact runs_prR0N okA ok f g pc hl xt pre pres q a ha
  rr s a hL ha := runs_prRN okA ok s.f g pc hl xt s.pre pres q s.l hL a ha
  rw s a v hL ha := runs_prWN okA ok s.f g pc hl xt s.pre pres q s.l hL a v ha
  rp s h := by
    have hP := runs_prPN ok okO s.f g pc hl xt s.pre pres q s.l h
    show Runs M 595 _ _ _ (fun r H' k' => r = tup2 (prV (prP pres s h).1) (erO (prP pres s h).2.1) ∧ H' = pEN g pc hl xt pres q (prP pres s h).2.2 6 ∧ k' = 7 + 1)
    refine up1 ?_
    unfold prP
    cases hk : lkp h pres with
    | none => rw [hk] at hP; exact hP
    | some p => rw [hk] at hP; exact hP
end Mv
