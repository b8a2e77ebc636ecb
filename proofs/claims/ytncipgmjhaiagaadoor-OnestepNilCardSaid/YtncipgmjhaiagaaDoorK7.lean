/- The checker: a memory that is known by its root. -/
import Derived.Test.YtncipgmjhaiagaaDoorW1
import Derived.Test.YtncipgmjhaiagaaDoorK6
import Derived.Test.YtncipgmjhaiagaaDoorDh
set_option linter.unusedSimpArgs false
set_option linter.unusedVariables false
namespace Mv
open Go
set_option maxRecDepth 20000
set_option maxHeartbeats 4000000
set_option linter.unusedSimpArgs false

/-- A proof of a word. -/
structure Pf where
  v : BitVec 64
  p : List Dg
instance : Inhabited Pf := ⟨⟨0#64, []⟩⟩
def pfV (p : Pf) : V := .st 2 (.fcons 0 (W p.v) (.fcons 1 (.lst 32 p.p.length (dgs p.p)) .fnil))
def pfs (l : List Pf) (i : Nat) : V := pfV (l.getD i default)
structure Ck where
  root : Dg
  l : List Pf
  pre : Pr
def Ck.vv (c : Ck) : V := .st 97 (.fcons 0 (dg c.root) (.fcons 32 (.lst 2 c.l.length (pfs c.l)) (.fcons 33 (prV c.pre) .fnil)))
theorem Sim_pfV (H : Hp) (m z : List Nat) (p : Pf) : Sim H m z (pfV p) (pfV p) := by simp only [pfV, dgs, dg, LY, seval, reduceCtorEq, implies_true]
theorem Sim_pfs (H : Hp) (m z : List Nat) (l : List Pf) (i : Nat) : Sim H m z (pfs l i) (pfs l i) = True := eq_true (Sim_pfV H m z _)
theorem Sim_ckV (H : Hp) (m z : List Nat) (c : Ck) : Sim H m z c.vv c.vv := by simp only [Ck.vv, Sim_pfs, dg, prV, LY, seval, reduceCtorEq, implies_true]
theorem ren_pfs (m : List Nat) (l : List Pf) (i : Nat) : (pfs l i).ren m = pfs l i := rfl
theorem ren_ckV (m : List Nat) (c : Ck) : c.vv.ren m = c.vv := rfl
structure OkCk (M : Seat) : Prop where
  k598 : chkF M 598 f598 = true
  k599 : chkF M 599 f599 = true
  k600 : chkF M 600 f600 = true
  k601 : chkF M 601 f601 = true
  m0 : MethOK M 426 0 599
  m1 : MethOK M 426 1 600
  m2 : MethOK M 426 2 598

theorem runs_HoldsS {M : Seat} (ok : OkM M) (d : Dg) (i : BitVec 64) (hi : ¬ 8192#64 ≤ i) (p : Pf) (hn : ¬ p.p.length = 13) :
    Runs M 53 [dg d, W i, pfV p] [] 0 (fun r H' k' => r = tup2 (.bool false) (erO (some 3)) ∧ H' = [] ∧ k' = 0) := by
  refine runs_fr ok.k53 rfl fun x hx => ?_
  have hn' : ((p.p.length : Int) = 13) = False := eq_false (by omega)
  refine ex_sound 2000 _ _ _ _ ?_; (simp (maxSteps := 4000000) only [f53, c53, eq_false hi, hn', pfV, LZ, seval, reduceCtorEq, forall_const])
  simp only [erN_some]
  refine RetS.mk hx [] [] (tup2 (.bool false) (.ifc 74 (.int .i64 3))) [] 0 (by decide) (by (simp only [LV, LZ, seval, reduceCtorEq, forall_const])) (by ((try simp only [LV, LZ, seval, reduceCtorEq, forall_const, LY, seval, reduceCtorEq, implies_true]); first | done | exact True.intro | (intros; rfl))) trivial ⟨rfl, rfl, rfl⟩
theorem runs_WriteS {M : Seat} (ok : OkM M) (d : Dg) (i : BitVec 64) (hi : ¬ 8192#64 ≤ i) (p : Pf) (hn : ¬ p.p.length = 13) (u : BitVec 64) :
    Runs M 52 [dg d, W i, pfV p, W u] [] 0 (fun r H' k' => r = tup2 (dg Dg.zero) (erO (some 3)) ∧ H' = [] ∧ k' = 0) := by
  refine runs_fr ok.k52 rfl fun x hx => ?_
  refine ex_sound 2000 _ _ _ _ ?_; (simp (maxSteps := 4000000) only [f52, c52, pfV, LZ, seval, reduceCtorEq, forall_const])
  refine call_pA (runs_HoldsS ok d i hi p hn) (by ((try simp only [pfV, erN_some, dgs, dg, LY, seval, reduceCtorEq, implies_true]); first | done | exact True.intro | rfl)) (by first | rfl | (simp only [LN, LP, V.ren, tup2, tup3])) (by simp only [pfV, erN_some, dgs, dg, LX, implies_true]) ?_
  (simp (maxSteps := 4000000) only [tup2, erN_some, dg0, LZ, seval, reduceCtorEq, forall_const])
  refine RetS.mk hx [] [] (tup2 (dg Dg.zero) (.ifc 74 (.int .i64 3))) [] 0 (by decide) (by (simp only [LV, LZ, seval, reduceCtorEq, forall_const])) (by ((try simp only [LV, LZ, seval, reduceCtorEq, forall_const, LY, seval, reduceCtorEq, implies_true]); first | done | exact True.intro | (intros; rfl))) trivial ⟨rfl, rfl, rfl⟩
theorem pfV13 {p : Pf} (h : p.p.length = 13) : pfV p = .st 2 (.fcons 0 (W p.v) (.fcons 1 (.lst 32 13 (dgs p.p)) .fnil)) := by rw [pfV, h]
theorem runs_WriteW {M : Seat} (ok : OkM M) (root : Dg) (i : BitVec 64) (hi : i.toNat < 8192) (p : Pf) (hp : p.p.length = 13) (hh : ¬ foldN i.toNat (leafD p.v) p.p 13 = root) (u : BitVec 64) :
    Runs M 52 [dg root, W i, pfV p, W u] [] 0 (fun r H' k' => r = tup2 (dg Dg.zero) (erO (some 31)) ∧ H' = [] ∧ k' = 0) := by
  refine runs_fr ok.k52 rfl fun x hx => ?_
  rw [pfV13 hp]
  refine ex_sound 2000 _ _ _ _ ?_; (simp (maxSteps := 4000000) only [f52, c52, LZ, seval, reduceCtorEq, forall_const])
  refine call_pA (runs_Holds ok root i.toNat hi p.v p.p hp) (by ((try simp only [W, dgs, dg, LY, seval, reduceCtorEq, implies_true]); first | done | exact True.intro | rfl)) (by first | rfl | (simp only [LN, LP, V.ren, tup2, tup3])) (by simp only [W, dgs, dg, LX, implies_true]) ?_
  (simp (maxSteps := 4000000) only [tup2, erN_some, dg0, eq_false hh, LZ, seval, reduceCtorEq, forall_const])
  refine RetS.mk hx [] [] (tup2 (dg Dg.zero) (.ifc 74 (.int .i64 31))) [] 0 (by decide) (by (simp only [LV, LZ, seval, reduceCtorEq, forall_const])) (by ((try simp only [LV, LZ, seval, reduceCtorEq, forall_const, LY, seval, reduceCtorEq, implies_true]); first | done | exact True.intro | (intros; rfl))) trivial ⟨rfl, rfl, rfl⟩

theorem runs_takeN {M : Seat} (ok : OkCk M) (root : Dg) (pre : Pr) :
    Runs M 601 [.ptr 0 []] [(0, (⟨root, [], pre⟩ : Ck).vv)] 1 (fun r H' k' => r = tup2 (.st 2 (.fcons 0 (W 0#64) (.fcons 1 .nils .fnil))) (erO (some 3)) ∧ H' = [(0, (⟨root, [], pre⟩ : Ck).vv)] ∧ k' = 1) := by
  refine runs_fr ok.k601 rfl fun x hx => ?_
  refine ex_sound 2000 _ _ _ _ ?_; (simp (maxSteps := 4000000) only [f601, c601, Ck.vv, List.length_nil, LZ, seval, reduceCtorEq, forall_const])
  refine RetS.mk hx [0] [] _ _ _ (by decide) (by (simp only [LV, Sim_pfs, dg, prV, erN_some, LZ, seval, reduceCtorEq, forall_const])) (by ((try simp only [LV, Sim_pfs, dg, prV, erN_some, LZ, seval, reduceCtorEq, forall_const, LY, seval, reduceCtorEq, implies_true]); first | done | exact True.intro | (intros; rfl))) (by ((try simp only [Sim_pfs, dg, prV, erN_some, LY, seval, reduceCtorEq, implies_true]); first | done | exact True.intro | (intros; rfl))) ⟨rfl, rfl, rfl⟩
theorem runs_takeS {M : Seat} (ok : OkCk M) (root : Dg) (pre : Pr) (p : Pf) (l : List Pf) :
    Runs M 601 [.ptr 0 []] [(0, (⟨root, p :: l, pre⟩ : Ck).vv)] 1 (fun r H' k' => r = tup2 (pfV p) .nili ∧ H' = [(0, (⟨root, l, pre⟩ : Ck).vv)] ∧ k' = 1) := by
  refine runs_fr ok.k601 rfl fun x hx => ?_
  have e0 : (((l.length + 1 : Nat) : Int) = 0) = False := eq_false (by omega)
  have e1 : pfs (p :: l) 0 = pfV p := rfl
  have e2 : l.length + 1 - 1 = l.length := rfl
  have e3 : ∀ i, pfs (p :: l) (1 + i) = pfs l i := fun i => by rw [Nat.add_comm]; rfl
  refine ex_sound 2000 _ _ _ _ ?_; (simp (maxSteps := 4000000) only [f601, c601, Ck.vv, List.length_cons, e0, e1, e2, e3, pfV, LZ, seval, reduceCtorEq, forall_const])
  repeat (refine And.intro (by first | omega | exact True.intro | rfl) ?_)
  refine RetS.mk hx [0] [] _ _ _ (by decide) (by (simp only [LV, Sim_pfs, dgs, dg, prV, LZ, seval, reduceCtorEq, forall_const])) (by ((try simp only [LV, Sim_pfs, dgs, dg, prV, LZ, seval, reduceCtorEq, forall_const, LY, seval, reduceCtorEq, implies_true]); first | done | exact True.intro | (intros; rfl))) (by ((try simp only [Sim_pfs, dgs, dg, prV, LY, seval, reduceCtorEq, implies_true]); first | done | exact True.intro | (intros; rfl))) ⟨rfl, rfl, rfl⟩

/-- What the checker's methods do. -/
def ckR (c : Ck) (a : BitVec 64) : BitVec 64 × Option Int × Ck :=
  match c with
  | ⟨root, [], pre⟩ => (0#64, some 3, ⟨root, [], pre⟩)
  | ⟨root, p :: l, pre⟩ => (p.v, if ¬ p.p.length = 13 then some 3 else if foldN a.toNat (leafD p.v) p.p 13 = root then none else some 31, ⟨root, l, pre⟩)
def ckW (c : Ck) (a v : BitVec 64) : Option Int × Ck :=
  match c with
  | ⟨root, [], pre⟩ => (some 3, ⟨root, [], pre⟩)
  | ⟨root, p :: l, pre⟩ => if ¬ p.p.length = 13 then (some 3, ⟨root, l, pre⟩) else if foldN a.toNat (leafD p.v) p.p 13 = root then (none, ⟨foldN a.toNat (leafD v) p.p 13, l, pre⟩) else (some 31, ⟨root, l, pre⟩)
def ckP (c : Ck) (h : Dg) : Pr × Option Int × Ck := if sum64 c.pre.at = h then (c.pre, none, c) else (Pr.zero, some 31, c)
def ckM : Mm Ck := ⟨ckR, ckW, ckP⟩

theorem runs_ckR {M : Seat} (okA : OkM M) (ok : OkCk M) (c : Ck) (a : BitVec 64) (ha : ¬ 8192#64 ≤ a) :
    Runs M 599 [.ptr 0 [], W a] [(0, c.vv)] 1 (fun r H' k' => r = tup2 (W (ckR c a).1) (erO (ckR c a).2.1) ∧ H' = [(0, (ckR c a).2.2.vv)] ∧ k' = 1) := by
  refine runs_fr ok.k599 rfl fun x hx => ?_
  obtain ⟨root, l, pre⟩ := c
  cases l with
  | nil =>
    refine ex_sound 2000 _ _ _ _ ?_; (simp (maxSteps := 4000000) only [f599, c599, LZ, seval, reduceCtorEq, forall_const])
    refine call_mN [0] [0] (runs_takeN ok root pre) (by rfl) (by rfl) (by decide) (by rfl) (by rfl) (by ((try simp only [Ck.vv, dg, prV, Sim_pfs, LY, seval, reduceCtorEq, implies_true]); first | done | exact True.intro | rfl)) (by ((try simp only [Ck.vv, dg, prV, Sim_pfs, LY, seval, reduceCtorEq, implies_true]); first | done | exact True.intro | rfl)) ?_
    (simp (maxSteps := 4000000) only [ren_ckV, erN_some, tup2, LZ, seval, reduceCtorEq, forall_const])
    simp only [ckR, erN_some]
    refine RetS.mk hx [0] [] _ _ _ (by decide) (by (simp only [LV, Sim_ckV, LZ, seval, reduceCtorEq, forall_const])) (by ((try simp only [LV, Sim_ckV, LZ, seval, reduceCtorEq, forall_const, LY, seval, reduceCtorEq, implies_true]); first | done | exact True.intro | (intros; rfl))) (by ((try simp only [Sim_ckV, LY, seval, reduceCtorEq, implies_true]); first | done | exact True.intro | (intros; rfl))) ⟨rfl, rfl, rfl⟩
  | cons p l =>
    have h := runs_takeS ok root pre p l
    by_cases hp : p.p.length = 13
    · by_cases hf : foldN a.toNat (leafD p.v) p.p 13 = root
      · simp only [ckR, hp, hf, not_true_eq_false, if_false, if_true, erN_none]
        rw [pfV13 hp] at h
        refine ex_sound 2000 _ _ _ _ ?_; (simp (maxSteps := 4000000) only [f599, c599, LZ, seval, reduceCtorEq, forall_const])
        refine call_mN [0] [0] (h) (by rfl) (by rfl) (by decide) (by rfl) (by rfl) (by ((try simp only [Ck.vv, dg, prV, Sim_pfs, LY, seval, reduceCtorEq, implies_true]); first | done | exact True.intro | rfl)) (by ((try simp only [Ck.vv, dg, prV, Sim_pfs, LY, seval, reduceCtorEq, implies_true]); first | done | exact True.intro | rfl)) ?_
        (simp (maxSteps := 4000000) only [ren_pfs, LM, tup2, Ck.vv, LZ, seval, reduceCtorEq, forall_const])
        refine opd_pA (runs_Holds okA root a.toNat (pfl a ha) p.v p.p hp) (by ((try simp only [W, dgs, dg, LY, seval, reduceCtorEq, implies_true]); first | done | exact True.intro | rfl)) (by first | rfl | (simp only [LN, LP, V.ren, tup2, tup3])) (by simp only [W, dgs, dg, LX, implies_true]) ?_
        (simp (maxSteps := 4000000) only [tup2, eq_true hf, LZ, seval, reduceCtorEq, forall_const])
        refine RetS.mk hx [0] [] _ _ _ (by decide) (by (simp only [LV, Sim_pfs, dg, LMS, LZ, seval, reduceCtorEq, forall_const])) (by ((try simp only [LV, Sim_pfs, dg, LMS, LZ, seval, reduceCtorEq, forall_const, LY, seval, reduceCtorEq, implies_true]); first | done | exact True.intro | (intros; rfl))) (by ((try simp only [Sim_pfs, dg, LMS, LY, seval, reduceCtorEq, implies_true]); first | done | exact True.intro | (intros; rfl))) ⟨rfl, rfl, rfl⟩
      · simp only [ckR, hp, hf, not_true_eq_false, if_false, erN_some]
        rw [pfV13 hp] at h
        refine ex_sound 2000 _ _ _ _ ?_; (simp (maxSteps := 4000000) only [f599, c599, LZ, seval, reduceCtorEq, forall_const])
        refine call_mN [0] [0] (h) (by rfl) (by rfl) (by decide) (by rfl) (by rfl) (by ((try simp only [Ck.vv, dg, prV, Sim_pfs, LY, seval, reduceCtorEq, implies_true]); first | done | exact True.intro | rfl)) (by ((try simp only [Ck.vv, dg, prV, Sim_pfs, LY, seval, reduceCtorEq, implies_true]); first | done | exact True.intro | rfl)) ?_
        (simp (maxSteps := 4000000) only [ren_pfs, LM, tup2, Ck.vv, LZ, seval, reduceCtorEq, forall_const])
        refine opd_pA (runs_Holds okA root a.toNat (pfl a ha) p.v p.p hp) (by ((try simp only [W, dgs, dg, LY, seval, reduceCtorEq, implies_true]); first | done | exact True.intro | rfl)) (by first | rfl | (simp only [LN, LP, V.ren, tup2, tup3])) (by simp only [W, dgs, dg, LX, implies_true]) ?_
        (simp (maxSteps := 4000000) only [tup2, eq_false hf, LZ, seval, reduceCtorEq, forall_const])
        refine RetS.mk hx [0] [] _ _ _ (by decide) (by (simp only [LV, Sim_pfs, dg, LMS, LZ, seval, reduceCtorEq, forall_const])) (by ((try simp only [LV, Sim_pfs, dg, LMS, LZ, seval, reduceCtorEq, forall_const, LY, seval, reduceCtorEq, implies_true]); first | done | exact True.intro | (intros; rfl))) (by ((try simp only [Sim_pfs, dg, LMS, LY, seval, reduceCtorEq, implies_true]); first | done | exact True.intro | (intros; rfl))) ⟨rfl, rfl, rfl⟩
    · simp only [ckR, hp, not_false_eq_true, if_true, erN_some]
      refine ex_sound 2000 _ _ _ _ ?_; (simp (maxSteps := 4000000) only [f599, c599, LZ, seval, reduceCtorEq, forall_const])
      refine call_mN [0] [0] (h) (by rfl) (by rfl) (by decide) (by rfl) (by rfl) (by ((try simp only [Ck.vv, dg, prV, Sim_pfs, LY, seval, reduceCtorEq, implies_true]); first | done | exact True.intro | rfl)) (by ((try simp only [Ck.vv, dg, prV, Sim_pfs, LY, seval, reduceCtorEq, implies_true]); first | done | exact True.intro | rfl)) ?_
      (simp (maxSteps := 4000000) only [ren_pfs, LM, tup2, Ck.vv, pfV, LZ, seval, reduceCtorEq, forall_const])
      refine opd_pA (runs_HoldsS okA root a ha p hp) (by ((try simp only [pfV, dgs, dg, erN_some, LY, seval, reduceCtorEq, implies_true]); first | done | exact True.intro | rfl)) (by first | rfl | (simp only [LN, LP, V.ren, tup2, tup3])) (by simp only [pfV, dgs, dg, erN_some, LX, implies_true]) ?_
      (simp (maxSteps := 4000000) only [tup2, erN_some, LZ, seval, reduceCtorEq, forall_const])
      refine RetS.mk hx [0] [] _ _ _ (by decide) (by (simp only [LV, Sim_pfs, dg, LMS, LZ, seval, reduceCtorEq, forall_const])) (by ((try simp only [LV, Sim_pfs, dg, LMS, LZ, seval, reduceCtorEq, forall_const, LY, seval, reduceCtorEq, implies_true]); first | done | exact True.intro | (intros; rfl))) (by ((try simp only [Sim_pfs, dg, LMS, LY, seval, reduceCtorEq, implies_true]); first | done | exact True.intro | (intros; rfl))) ⟨rfl, rfl, rfl⟩

theorem runs_ckW {M : Seat} (okA : OkM M) (ok : OkCk M) (c : Ck) (a v : BitVec 64) (ha : ¬ 8192#64 ≤ a) :
    Runs M 600 [.ptr 0 [], W a, W v] [(0, c.vv)] 1 (fun r H' k' => r = erO (ckW c a v).1 ∧ H' = [(0, (ckW c a v).2.vv)] ∧ k' = 1) := by
  refine runs_fr ok.k600 rfl fun x hx => ?_
  obtain ⟨root, l, pre⟩ := c
  cases l with
  | nil =>
    refine ex_sound 2000 _ _ _ _ ?_; (simp (maxSteps := 4000000) only [f600, c600, LZ, seval, reduceCtorEq, forall_const])
    refine call_mN [0] [0] (runs_takeN ok root pre) (by rfl) (by rfl) (by decide) (by rfl) (by rfl) (by ((try simp only [Ck.vv, dg, prV, Sim_pfs, LY, seval, reduceCtorEq, implies_true]); first | done | exact True.intro | rfl)) (by ((try simp only [Ck.vv, dg, prV, Sim_pfs, LY, seval, reduceCtorEq, implies_true]); first | done | exact True.intro | rfl)) ?_
    (simp (maxSteps := 4000000) only [ren_ckV, erN_some, tup2, LZ, seval, reduceCtorEq, forall_const])
    simp only [ckW, erN_some]
    refine RetS.mk hx [0] [] _ _ _ (by decide) (by (simp only [LV, Sim_ckV, LZ, seval, reduceCtorEq, forall_const])) (by ((try simp only [LV, Sim_ckV, LZ, seval, reduceCtorEq, forall_const, LY, seval, reduceCtorEq, implies_true]); first | done | exact True.intro | (intros; rfl))) (by ((try simp only [Sim_ckV, LY, seval, reduceCtorEq, implies_true]); first | done | exact True.intro | (intros; rfl))) ⟨rfl, rfl, rfl⟩
  | cons p l =>
    have h := runs_takeS ok root pre p l
    by_cases hp : p.p.length = 13
    · by_cases hf : foldN a.toNat (leafD p.v) p.p 13 = root
      · simp only [ckW, hp, hf, not_true_eq_false, if_false, if_true, erN_none]
        rw [pfV13 hp] at h
        refine ex_sound 2000 _ _ _ _ ?_; (simp (maxSteps := 4000000) only [f600, c600, LZ, seval, reduceCtorEq, forall_const])
        refine call_mN [0] [0] (h) (by rfl) (by rfl) (by decide) (by rfl) (by rfl) (by ((try simp only [Ck.vv, dg, prV, Sim_pfs, LY, seval, reduceCtorEq, implies_true]); first | done | exact True.intro | rfl)) (by ((try simp only [Ck.vv, dg, prV, Sim_pfs, LY, seval, reduceCtorEq, implies_true]); first | done | exact True.intro | rfl)) ?_
        (simp (maxSteps := 4000000) only [ren_pfs, LM, tup2, Ck.vv, LZ, seval, reduceCtorEq, forall_const])
        refine opd_pA (runs_Write okA root a.toNat (pfl a ha) p.v p.p hp hf v) (by ((try simp only [W, dgs, dg, LY, seval, reduceCtorEq, implies_true]); first | done | exact True.intro | rfl)) (by first | rfl | (simp only [LN, LP, V.ren, tup2, tup3])) (by simp only [W, dgs, dg, LX, implies_true]) ?_
        (simp (maxSteps := 4000000) only [tup2, LZ, seval, reduceCtorEq, forall_const])
        refine RetS.mk hx [0] [] _ _ _ (by decide) (by (simp only [LV, Sim_pfs, dg, LMS, LZ, seval, reduceCtorEq, forall_const])) (by ((try simp only [LV, Sim_pfs, dg, LMS, LZ, seval, reduceCtorEq, forall_const, LY, seval, reduceCtorEq, implies_true]); first | done | exact True.intro | (intros; rfl))) (by ((try simp only [Sim_pfs, dg, LMS, LY, seval, reduceCtorEq, implies_true]); first | done | exact True.intro | (intros; rfl))) ⟨rfl, rfl, rfl⟩
      · simp only [ckW, hp, hf, not_true_eq_false, if_false, erN_some]
        refine ex_sound 2000 _ _ _ _ ?_; (simp (maxSteps := 4000000) only [f600, c600, LZ, seval, reduceCtorEq, forall_const])
        refine call_mN [0] [0] (h) (by rfl) (by rfl) (by decide) (by rfl) (by rfl) (by ((try simp only [Ck.vv, dg, prV, Sim_pfs, LY, seval, reduceCtorEq, implies_true]); first | done | exact True.intro | rfl)) (by ((try simp only [Ck.vv, dg, prV, Sim_pfs, LY, seval, reduceCtorEq, implies_true]); first | done | exact True.intro | rfl)) ?_
        (simp (maxSteps := 4000000) only [ren_pfs, LM, tup2, Ck.vv, pfV, LZ, seval, reduceCtorEq, forall_const])
        refine opd_pA (runs_WriteW okA root a (pfl a ha) p hp hf v) (by ((try simp only [W, pfV, dgs, dg, erN_some, LY, seval, reduceCtorEq, implies_true]); first | done | exact True.intro | rfl)) (by first | rfl | (simp only [LN, LP, V.ren, tup2, tup3])) (by simp only [W, pfV, dgs, dg, erN_some, LX, implies_true]) ?_
        (simp (maxSteps := 4000000) only [tup2, erN_some, LZ, seval, reduceCtorEq, forall_const])
        refine RetS.mk hx [0] [] _ _ _ (by decide) (by (simp only [LV, Sim_pfs, dg, LMS, LZ, seval, reduceCtorEq, forall_const])) (by ((try simp only [LV, Sim_pfs, dg, LMS, LZ, seval, reduceCtorEq, forall_const, LY, seval, reduceCtorEq, implies_true]); first | done | exact True.intro | (intros; rfl))) (by ((try simp only [Sim_pfs, dg, LMS, LY, seval, reduceCtorEq, implies_true]); first | done | exact True.intro | (intros; rfl))) ⟨rfl, rfl, rfl⟩
    · simp only [ckW, hp, not_false_eq_true, if_true, erN_some]
      refine ex_sound 2000 _ _ _ _ ?_; (simp (maxSteps := 4000000) only [f600, c600, LZ, seval, reduceCtorEq, forall_const])
      refine call_mN [0] [0] (h) (by rfl) (by rfl) (by decide) (by rfl) (by rfl) (by ((try simp only [Ck.vv, dg, prV, Sim_pfs, LY, seval, reduceCtorEq, implies_true]); first | done | exact True.intro | rfl)) (by ((try simp only [Ck.vv, dg, prV, Sim_pfs, LY, seval, reduceCtorEq, implies_true]); first | done | exact True.intro | rfl)) ?_
      (simp (maxSteps := 4000000) only [ren_pfs, LM, tup2, Ck.vv, pfV, LZ, seval, reduceCtorEq, forall_const])
      refine opd_pA (runs_WriteS okA root a ha p hp v) (by ((try simp only [pfV, dgs, dg, erN_some, LY, seval, reduceCtorEq, implies_true]); first | done | exact True.intro | rfl)) (by first | rfl | (simp only [LN, LP, V.ren, tup2, tup3])) (by simp only [pfV, dgs, dg, erN_some, LX, implies_true]) ?_
      (simp (maxSteps := 4000000) only [tup2, erN_some, LZ, seval, reduceCtorEq, forall_const])
      refine RetS.mk hx [0] [] _ _ _ (by decide) (by (simp only [LV, Sim_pfs, dg, LMS, LZ, seval, reduceCtorEq, forall_const])) (by ((try simp only [LV, Sim_pfs, dg, LMS, LZ, seval, reduceCtorEq, forall_const, LY, seval, reduceCtorEq, implies_true]); first | done | exact True.intro | (intros; rfl))) (by ((try simp only [Sim_pfs, dg, LMS, LY, seval, reduceCtorEq, implies_true]); first | done | exact True.intro | (intros; rfl))) ⟨rfl, rfl, rfl⟩

theorem runs_ckP {M : Seat} (okA : OkM M) (okH : OkH M) (ok : OkCk M) (c : Ck) (h : Dg) :
    Runs M 598 [.ptr 0 [], dg h] [(0, c.vv)] 1 (fun r H' k' => r = tup2 (prV (ckP c h).1) (erO (ckP c h).2.1) ∧ H' = [(0, (ckP c h).2.2.vv)] ∧ k' = 1) := by
  refine runs_fr ok.k598 rfl fun x hx => ?_
  obtain ⟨root, l, pre⟩ := c
  have hs : ∀ q : Pr, runs_Sum64 okA okH q.at = runs_Sum64 okA okH q.at := fun _ => rfl
  by_cases hd : sum64 pre.at = h
  · simp only [ckP, hd, if_true, erN_none]
    refine ex_sound 2000 _ _ _ _ ?_; (simp (maxSteps := 4000000) only [f598, c598, Ck.vv, LM, LZ, seval, reduceCtorEq, forall_const])
    refine opd_pA (runs_Sum64 okA okH pre.at) (by ((try simp only [prV, LY, seval, reduceCtorEq, implies_true]); first | done | exact True.intro | rfl)) (by first | rfl | (simp only [LN, LP, V.ren, tup2, tup3])) (by simp only [prV, LX, implies_true]) ?_
    (simp (maxSteps := 4000000) only [hd, LM, LZ, seval, reduceCtorEq, forall_const])
    refine RetS.mk hx [0] [] _ _ _ (by decide) (by (simp only [LV, Sim_pfs, dg, LMS, LM, LZ, seval, reduceCtorEq, forall_const])) (by ((try simp only [LV, Sim_pfs, dg, LMS, LM, LZ, seval, reduceCtorEq, forall_const, LY, seval, reduceCtorEq, implies_true]); first | done | exact True.intro | (intros; rfl))) (by ((try simp only [Sim_pfs, dg, LMS, LM, LY, seval, reduceCtorEq, implies_true]); first | done | exact True.intro | (intros; rfl))) ⟨rfl, rfl, rfl⟩
  · simp only [ckP, hd, if_false, erN_some]
    refine ex_sound 2000 _ _ _ _ ?_; (simp (maxSteps := 4000000) only [f598, c598, Ck.vv, LM, LZ, seval, reduceCtorEq, forall_const])
    refine opd_pA (runs_Sum64 okA okH pre.at) (by ((try simp only [prV, LY, seval, reduceCtorEq, implies_true]); first | done | exact True.intro | rfl)) (by first | rfl | (simp only [LN, LP, V.ren, tup2, tup3])) (by simp only [prV, LX, implies_true]) ?_
    (simp (maxSteps := 4000000) only [eq_false hd, LM, pr0, LZ, seval, reduceCtorEq, forall_const])
    refine RetS.mk hx [0] [] _ _ _ (by decide) (by (simp only [LV, Sim_pfs, dg, LMS, LM, LZ, seval, reduceCtorEq, forall_const])) (by ((try simp only [LV, Sim_pfs, dg, LMS, LM, LZ, seval, reduceCtorEq, forall_const, LY, seval, reduceCtorEq, implies_true]); first | done | exact True.intro | (intros; rfl))) (by ((try simp only [Sim_pfs, dg, LMS, LM, LY, seval, reduceCtorEq, implies_true]); first | done | exact True.intro | (intros; rfl))) ⟨rfl, rfl, rfl⟩

theorem up1 {M : Seat} {f : Nat} {us : List V} {v : V} {H Hn : Hp} {k kn : Nat} (h : Runs M f us H k (fun r H' k' => r = v ∧ H' = Hn ∧ k' = kn)) : Runs M f us H k (fun r H' k' => r = v ∧ H' = Hn ∧ k' = kn + 1) := by
  intro e vs h1 h2 h3
  refine (h e vs h1 h2 h3).mono ?_
  rintro en w' ⟨x, v, e', H', k', a, b, c, d, f, g, rfl, rfl, rfl⟩
  exact ⟨x, v, e', _, _, a, b, c, d, fun id hid => f id (by omega), by omega, rfl, rfl, rfl⟩
/-- The checker as a memory. -/
def ckI {M : Seat} (okA : OkM M) (okH : OkH M) (ok : OkCk M) : MemI M where
  σ := Ck
  t := 426
  ht := .inr rfl
  k0 := 1
  kk := 1
  hk := by omega
  E c _ := [(0, c.vv)]
  E0 c := [(0, c.vv)]
  mm := ckM
  Z _ := True
  len _ := 0
  lr _ _ := Nat.zero_le _
  lw _ _ _ := Nat.zero_le _
  lp _ _ := Nat.zero_le _
  lz _ _ := rfl
  hids s b i h := by simp [hhas] at h; omega
  hids0 s i h := by simp [hhas] at h; omega
  sim0 s H m z hm hH := by
    obtain ⟨h1, h2⟩ := hH 0 rfl
    simp only [SimH, hm 0 (by omega), h1, h2, true_and, and_true]
    exact Sim_ckV _ _ _ _
  simE s b b' H m z _ hm _ hH := by
    obtain ⟨h1, h2⟩ := hH 0 rfl
    simp only [SimH, hm 0 (by omega), h1, h2, true_and, and_true]
    exact Sim_ckV _ _ _ _
  c0 {f us us' v s s'} own {n K} hr hus hv ho hK := by
    have h0 : hhas own 0 = false := by
      cases hh : hhas own 0 with
      | false => rfl
      | true => have := (ho 0 hh).1; omega
    refine call_own (E' := [(0, s'.vv)]) [0] [0] hr (by intro id i h1 h2; simp [hhas] at h1; subst h1; simpa using h2.symm) (by simp) (by simp) ⟨rfl, by omega⟩ (by simp [hhas, h0]) (by simp [hhas]) (hus _ _ _ rfl) ?_ rfl rfl hv (fun i hi => ?_) hK
    · refine ⟨⟨by rw [hhas_append]; simp [hhas], ?_⟩, trivial⟩
      rw [hget_append_r h0]
      exact Sim_ckV _ _ _ _
    · simp [hhas] at hi; subst hi; exact h0
  ck {f us us' v s s' b} own {n K} hr hus hv _ ho hK := by
    have h0 : hhas own 0 = false := by
      cases hh : hhas own 0 with
      | false => rfl
      | true => have := (ho 0 hh).1; omega
    refine call_own (E' := [(0, s'.vv)]) [0] [0] hr (by intro id i h1 h2; simp [hhas] at h1; subst h1; simpa using h2.symm) (by simp) (by simp) ⟨rfl, by omega⟩ (by simp [hhas, h0]) (by simp [hhas]) (hus _ _ _ rfl) ?_ rfl rfl hv (fun i hi => ?_) hK
    · refine ⟨⟨by rw [hhas_append]; simp [hhas], ?_⟩, trivial⟩
      rw [hget_append_r h0]
      exact Sim_ckV _ _ _ _
    · simp [hhas] at hi; subst hi; exact h0
  cu {f us us' v s s' b} own {n K} hr hus hv _ ho hK := by
    have h0 : hhas own 0 = false := by
      cases hh : hhas own 0 with
      | false => rfl
      | true => have := (ho 0 hh).1; omega
    refine call_own (E' := [(0, s'.vv)]) [0] [0] hr (by intro id i h1 h2; simp [hhas] at h1; subst h1; simpa using h2.symm) (by simp) (by simp) ⟨rfl, by omega⟩ (by simp [hhas, h0]) (by simp [hhas]) (hus _ _ _ rfl) ?_ rfl rfl hv (fun i hi => ?_) hK
    · refine ⟨⟨by rw [hhas_append]; simp [hhas], ?_⟩, trivial⟩
      rw [hget_append_r h0]
      exact Sim_ckV _ _ _ _
    · simp [hhas] at hi; subst hi; exact h0
  fr := 599
  fw := 600
  fp := 598
  mr := ok.m0
  mw := ok.m1
  mp := ok.m2
  rr0 s a _ ha := up1 (runs_ckR okA ok s a ha)
  rr s a _ ha := up1 (runs_ckR okA ok s a ha)
  rw s a v _ ha := up1 (runs_ckW okA ok s a v ha)
  rp s h := up1 (runs_ckP okA okH ok s h)
end Mv
