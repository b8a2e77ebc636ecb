/- The prover and the checker agree, step by step: plain laws. -/
import Derived.Test.YtncipgmjhaiagaaDoorK8
import Derived.Test.YtncipgmjhaiagaaDoorK6
import Derived.Test.YtncipgmjhaiagaaDoorW8
import Derived.Test.YtncipgmjhaiagaaDoorW1
set_option linter.unusedSimpArgs false
set_option linter.unusedVariables false
namespace Mv
open Go
set_option linter.unusedSimpArgs false

/-- The accesses of reads, of writes. -/
def rdL (f : Nat → BitVec 64) (a : BitVec 64) : Nat → Nat → List (BitVec 64)
  | 0, _ => []
  | n + 1, i => f (a + BitVec.ofNat 64 i).toNat :: rdL f a n (i + 1)
def rdP (f : Nat → BitVec 64) (a : BitVec 64) : Nat → Nat → List Pf
  | 0, _ => []
  | n + 1, i => pfOf f (a + BitVec.ofNat 64 i) :: rdP f a n (i + 1)
def wrF (a : BitVec 64) (v : Nat → BitVec 64) : Nat → Nat → (Nat → BitVec 64) → Nat → BitVec 64
  | 0, _, f => f
  | n + 1, i, f => wrF a v n (i + 1) (upd f (a + BitVec.ofNat 64 i).toNat (v i))
def wrP (a : BitVec 64) (v : Nat → BitVec 64) : Nat → Nat → (Nat → BitVec 64) → List Pf
  | 0, _, _ => []
  | n + 1, i, f => pfOf f (a + BitVec.ofNat 64 i) :: wrP a v n (i + 1) (upd f (a + BitVec.ofNat 64 i).toNat (v i))
theorem rdA_pr (pres : List (Dg × Pr)) (a : BitVec 64) : ∀ (n i : Nat) (s : Ps) (l : List (BitVec 64)), rdA (prM pres) a n i s l = (none, ⟨s.f, s.l ++ rdP s.f a n i, s.pre⟩, l ++ rdL s.f a n i)
  | 0, i, s, l => by simp [rdA, rdP, rdL]
  | n + 1, i, s, l => by
    rw [rdA]
    show rdA (prM pres) a n (i + 1) ⟨s.f, s.l ++ [pfOf s.f (a + BitVec.ofNat 64 i)], s.pre⟩ (l ++ [s.f (a + BitVec.ofNat 64 i).toNat]) = _
    rw [rdA_pr pres a n (i + 1)]
    simp [rdP, rdL]
theorem rdA_ck (a : BitVec 64) (f : Nat → BitVec 64) (rest : List Pf) (pre : Pr) : ∀ (n i : Nat) (l : List (BitVec 64)), a.toNat + (i + n) ≤ 8192 → rdA ckM a n i ⟨memN f 13 0, rdP f a n i ++ rest, pre⟩ l = (none, ⟨memN f 13 0, rest, pre⟩, l ++ rdL f a n i)
  | 0, i, l, _ => by simp [rdA, rdP, rdL]
  | n + 1, i, l, h => by
    have ha := pfl _ (add_in a i (by omega))
    have e : (ckM.rd ⟨memN f 13 0, rdP f a (n + 1) i ++ rest, pre⟩ (a + BitVec.ofNat 64 i)) = (f (a + BitVec.ofNat 64 i).toNat, none, ⟨memN f 13 0, rdP f a n (i + 1) ++ rest, pre⟩) := by
      rw [show ckM.rd = ckR from rfl]
      simp only [rdP, List.cons_append, ckR, pfOf, pth_len, not_true_eq_false, if_false, fold_self f _ ha, if_true]
    rw [rdA, e]
    show rdA ckM a n (i + 1) _ _ = _
    rw [rdA_ck a f rest pre n (i + 1) _ (by omega)]
    simp [rdL]
theorem wrA_pr (pres : List (Dg × Pr)) (a : BitVec 64) (v : Nat → BitVec 64) : ∀ (n i : Nat) (s : Ps), wrA (prM pres) a v n i s = (none, ⟨wrF a v n i s.f, s.l ++ wrP a v n i s.f, s.pre⟩)
  | 0, i, s => by simp [wrA, wrF, wrP]
  | n + 1, i, s => by
    rw [wrA]
    show wrA (prM pres) a v n (i + 1) ⟨upd s.f (a + BitVec.ofNat 64 i).toNat (v i), s.l ++ [pfOf s.f (a + BitVec.ofNat 64 i)], s.pre⟩ = _
    rw [wrA_pr pres a v n (i + 1)]
    simp [wrF, wrP]
theorem wrA_ck (a : BitVec 64) (v : Nat → BitVec 64) (rest : List Pf) (pre : Pr) : ∀ (n i : Nat) (f : Nat → BitVec 64), a.toNat + (i + n) ≤ 8192 → wrA ckM a v n i ⟨memN f 13 0, wrP a v n i f ++ rest, pre⟩ = (none, ⟨memN (wrF a v n i f) 13 0, rest, pre⟩)
  | 0, i, f, _ => by simp [wrA, wrF, wrP]
  | n + 1, i, f, h => by
    have ha := pfl _ (add_in a i (by omega))
    have e : (ckM.wr ⟨memN f 13 0, wrP a v (n + 1) i f ++ rest, pre⟩ (a + BitVec.ofNat 64 i) (v i)) = (none, ⟨memN (upd f (a + BitVec.ofNat 64 i).toNat (v i)) 13 0, wrP a v n (i + 1) (upd f (a + BitVec.ofNat 64 i).toNat (v i)) ++ rest, pre⟩) := by
      rw [show ckM.wr = ckW from rfl]
      simp only [wrP, List.cons_append, ckW, pfOf, pth_len, not_true_eq_false, if_false, fold_self f _ ha, if_true, fold_upd f _ ha]
    rw [wrA, e]
    show wrA ckM a v n (i + 1) _ = _
    rw [wrA_ck a v rest pre n (i + 1) _ (by omega)]
    rfl
/-- Every preimage stands under its digest. -/
def PresOk (pres : List (Dg × Pr)) : Prop := ∀ h p, lkp h pres = some p → sum64 p.at = h
/-- A proof that was made is good for the root; what is behind it stays. -/
theorem isI_op {w : BitVec 64} (h : ¬ isI w = false) : pOp w ≤ 35 := ((isI_iff w).1 (by simpa using h)).1
theorem nx_full (pres : List (Dg × Pr)) (hp : PresOk pres) (h : Hd) (hl : h.hl = false) (hpc : ¬ 8192#64 ≤ h.pc) (f : Nat → BitVec 64) (pre0 : Pr) (h' : Hd) (s' : Ps)
    (hn : nx (prM pres) h ⟨f, [], pre0⟩ = (h', none, s')) (rest : List Pf) : nx ckM h ⟨memN f 13 0, s'.l ++ rest, s'.pre⟩ = (h', none, ⟨memN s'.f 13 0, rest, s'.pre⟩) := by
  have ha := pfl _ hpc
  have hk : ∀ (f : Nat → BitVec 64) (a : BitVec 64) (r : List Pf) (pre : Pr), a.toNat < 8192 → ckM.rd ⟨memN f 13 0, pfOf f a :: r, pre⟩ a = (f a.toNat, none, ⟨memN f 13 0, r, pre⟩) := fun f a r pre ha => by
    rw [show ckM.rd = ckR from rfl]
    simp only [ckR, pfOf, pth_len, not_true_eq_false, if_false, fold_self f _ ha, if_true]
  have hkw : ∀ (f : Nat → BitVec 64) (a v : BitVec 64) (r : List Pf) (pre : Pr), a.toNat < 8192 → ckM.wr ⟨memN f 13 0, pfOf f a :: r, pre⟩ a v = (none, ⟨memN (upd f a.toNat v) 13 0, r, pre⟩) := fun f a v r pre ha => by
    rw [show ckM.wr = ckW from rfl]
    simp only [ckW, pfOf, pth_len, not_true_eq_false, if_false, fold_self f _ ha, if_true, fold_upd f _ ha]
  have e0 : (prM pres).rd ⟨f, [], pre0⟩ h.pc = (f h.pc.toNat, none, ⟨f, [pfOf f h.pc], pre0⟩) := rfl
  rw [nx, e0] at hn
  dsimp only at hn
  -- what is behind the first read
  have key : ∀ ext : List Pf, s'.l = pfOf f h.pc :: ext → nx1 ckM h (f h.pc.toNat) ⟨memN f 13 0, ext ++ rest, s'.pre⟩ = (h', none, ⟨memN s'.f 13 0, rest, s'.pre⟩) → nx ckM h ⟨memN f 13 0, s'.l ++ rest, s'.pre⟩ = (h', none, ⟨memN s'.f 13 0, rest, s'.pre⟩) := fun ext he hx => by
    rw [nx, he, List.cons_append, hk f h.pc _ _ ha]
    exact hx
  generalize f h.pc.toNat = w at *
  unfold nx1 at hn
  by_cases q0 : isI w = false
  · rw [if_pos q0] at hn
    simp only [Prod.mk.injEq, true_and] at hn
    obtain ⟨rfl, rfl⟩ := hn
    exact key [] rfl (by rw [nx1, if_pos q0]; rfl)
  rw [if_neg q0] at hn
  by_cases q1 : pOp w = 0
  · rw [if_pos q1] at hn
    simp only [Prod.mk.injEq, true_and] at hn
    obtain ⟨rfl, rfl⟩ := hn
    exact key [] rfl (by rw [nx1, if_neg q0, if_pos q1]; rfl)
  rw [if_neg q1] at hn
  by_cases q2 : pOp w < 26
  · rw [if_pos q2] at hn
    simp only [Prod.mk.injEq, true_and] at hn
    obtain ⟨rfl, rfl⟩ := hn
    exact key [] rfl (by rw [nx1, if_neg q0, if_neg q1, if_pos q2]; rfl)
  rw [if_neg q2] at hn
  by_cases q3 : pOp w = 26
  · rw [if_pos q3] at hn
    simp only [Prod.mk.injEq, true_and] at hn
    obtain ⟨rfl, rfl⟩ := hn
    exact key [] rfl (by rw [nx1, if_neg q0, if_neg q1, if_neg q2, if_pos q3]; rfl)
  rw [if_neg q3] at hn
  by_cases q4 : pOp w = 27 ∨ pOp w = 28
  · rw [if_pos q4] at hn
    by_cases q5 : 8192#64 ≤ h.g (pF w 48) + BitVec.ofInt 64 (pN w)
    · rw [if_pos q5] at hn
      simp only [Prod.mk.injEq, true_and] at hn
      obtain ⟨rfl, rfl⟩ := hn
      exact key [] rfl (by rw [nx1, if_neg q0, if_neg q1, if_neg q2, if_neg q3, if_pos q4, if_pos q5]; rfl)
    rw [if_neg q5] at hn
    have hb := pfl _ q5
    by_cases q6 : pOp w = 27
    · rw [if_pos q6] at hn
      simp only [prM, prR, Prod.mk.injEq, true_and] at hn
      obtain ⟨rfl, rfl⟩ := hn
      refine key [pfOf f _] rfl ?_
      rw [nx1, if_neg q0, if_neg q1, if_neg q2, if_neg q3, if_pos q4, if_neg q5, if_pos q6, List.cons_append, List.nil_append, hk f _ _ _ hb]
    · rw [if_neg q6] at hn
      simp only [prM, prW, Prod.mk.injEq, true_and] at hn
      obtain ⟨rfl, rfl⟩ := hn
      refine key [pfOf f _] rfl ?_
      rw [nx1, if_neg q0, if_neg q1, if_neg q2, if_neg q3, if_pos q4, if_neg q5, if_neg q6, List.cons_append, List.nil_append, hkw f _ _ _ _ hb]
  rw [if_neg q4] at hn
  by_cases q7 : pOp w < 34
  · rw [if_pos q7] at hn
    simp only [Prod.mk.injEq, true_and] at hn
    obtain ⟨rfl, rfl⟩ := hn
    exact key [] rfl (by rw [nx1, if_neg q0, if_neg q1, if_neg q2, if_neg q3, if_neg q4, if_pos q7]; rfl)
  rw [if_neg q7] at hn
  have hR : ∀ s, nx1 ckM h w s = orc ckM (pOp w) h s (h.g (pF w 48)) (h.g (pF w 44)) := fun s => by rw [nx1, if_neg q0, if_neg q1, if_neg q2, if_neg q3, if_neg q4, if_neg q7]
  generalize h.g (pF w 48) = a at *
  generalize h.g (pF w 44) = b at *
  have hop := isI_op q0
  generalize pOp w = op at *
  unfold orc at hn
  by_cases q8 : (wi a (if op = 35 then 4#64 else 8#64) && wi b (if op = 35 then 8#64 else 4#64)) = false
  · rw [if_pos q8] at hn
    simp only [Prod.mk.injEq, true_and] at hn
    obtain ⟨rfl, rfl⟩ := hn
    exact key [] rfl (by rw [hR, orc, if_pos q8]; rfl)
  rw [if_neg q8] at hn
  simp only [Bool.not_eq_false, Bool.and_eq_true] at q8
  have ha' := wi_le q8.1
  have hb' := wi_le q8.2
  have q8' : ¬ (wi a (if op = 35 then 4#64 else 8#64) && wi b (if op = 35 then 8#64 else 4#64)) = false := by simp [q8]
  have hO : ∀ (s : Ck) (r : List (BitVec 64)) (c : Ck), rdA ckM a (if op = 35 then 4 else 8) 0 s [] = (none, c, r) → orc ckM op h s a b = (if op = 34 then orcW ckM h c b 4 (sum64 (Pr.mk' (bysL r)).at).at else orcP ckM h c b (Dg.mk' (bysL r))) := fun s r c hr => by
    rw [orc, if_neg q8', hr]
  rw [rdA_pr] at hn
  rcases (show op = 34 ∨ op = 35 by omega) with rfl | rfl
  · have ha' : a.toNat + 8 ≤ 8192 := ha'
    have hb' : b.toNat + 4 ≤ 8192 := hb'
    have e8 : (if (34 : Nat) = 35 then 4 else 8) = 8 := rfl
    rw [e8] at hn hO
    dsimp only at hn
    rw [if_pos rfl, orcW, wrA_pr] at hn
    simp only [Prod.mk.injEq, true_and, List.nil_append] at hn
    obtain ⟨rfl, rfl⟩ := hn
    refine key (rdP f a 8 0 ++ wrP b (wsB (sum64 (Pr.mk' (bysL (rdL f a 8 0))).at).at) 4 0 f) (by simp) ?_
    rw [hR, List.append_assoc, hO _ _ _ (rdA_ck a f _ _ 8 0 [] (by omega)), if_pos rfl, orcW, List.nil_append, wrA_ck b _ rest _ 4 0 f (by omega)]
  · have ha' : a.toNat + 4 ≤ 8192 := ha'
    have hb' : b.toNat + 8 ≤ 8192 := hb'
    have e8 : (if (35 : Nat) = 35 then 4 else 8) = 4 := rfl
    rw [e8] at hn hO
    dsimp only at hn
    have n34 : ¬ (35 : Nat) = 34 := by omega
    rw [if_neg n34, orcP, show (prM pres).pi = prP pres from rfl, prP, List.nil_append] at hn
    cases hk' : lkp (Dg.mk' (bysL (rdL f a 4 0))) pres with
    | none => rw [hk'] at hn; simp at hn
    | some p =>
      rw [hk'] at hn
      dsimp only at hn
      rw [orcW, wrA_pr] at hn
      simp only [Prod.mk.injEq, true_and] at hn
      obtain ⟨rfl, rfl⟩ := hn
      have hs := hp _ _ hk'
      refine key (rdP f a 4 0 ++ wrP b (wsB p.at) 8 0 f) (by simp) ?_
      rw [hR, List.append_assoc, hO _ _ _ (rdA_ck a f _ _ 4 0 [] (by omega)), if_neg n34, orcP, show ckM.pi = ckP from rfl, ckP, List.nil_append, if_pos hs]
      dsimp only
      rw [orcW, wrA_ck b _ rest _ 8 0 f (by omega)]
end Mv
namespace Mv
open Go
set_option maxRecDepth 20000
set_option maxHeartbeats 4000000
set_option linter.unusedSimpArgs false

structure OkOs (M : Seat) : Prop where
  q : OkQ M
  d : OkD M
  c : OkCk M
  p : OkPr M
  k97 : chkF M 97 f97 = true
  k98 : chkF M 98 f98 = true
/-- A step's proof. -/
def spV (root : Dg) (h : Hd) (l : List Pf) (pre : Pr) : V := .st 116 (.fcons 0 (dg root) (.fcons 32 h.v (.fcons 51 (.lst 2 l.length (pfs l)) (.fcons 52 (prV pre) .fnil))))
def Mc.h (m : Mc) : Hd := ⟨m.g, m.pc, m.hl, m.xt⟩
/-- What Prove hands back. -/
def pvR (m : Mc) (e : Option Int) (l : List Pf) (pre : Pr) : V := match e with
  | none => tup2 (spV (memN m.f 13 0) m.h l pre) .nili
  | some n => tup2 (spV Dg.zero ⟨fun _ => 0#64, 0#64, false, 0#64⟩ [] Pr.zero) (.ifc 74 (.int .i64 n))
def st2 (va : V) : V := .st 4 (.fcons 0 (.map 2) (.fcons 1 (.ptr 3 []) (.fcons 2 (.map 4) (.fcons 3 va .fnil))))

theorem runs_PvHlN {M : Seat} (ok : OkOs M) (f g : Nat → BitVec 64) (pc xt : BitVec 64) (pres : List (Dg × Pr)) (q : Nat) :
    Runs M 97 [.ptr 0 [], .ptr 1 []] [(0, mach f g pc true xt), (1, st2 (.nils)), (2, mpV prV Pr.zero pres)] 5
      (fun r H' k' => r = pvR ⟨f, g, pc, true, xt⟩ none [] Pr.zero ∧ H' = [(0, mach f g pc true xt), (1, st2 (.nils)), (2, mpV prV Pr.zero pres)] ∧ k' = 5) := by
  refine runs_fr ok.k97 rfl fun x hx => ?_
  have hN : Runs M 241 [hdV g pc true xt, .ifc 422 (.ptr 0 [])] [(0, pvV .nils Pr.zero), (1, mach f g pc true xt), (2, stP (.nils)), (3, mpV prV Pr.zero pres)] 6 (fun r H' k' => r = tup2 (hdV g pc true xt) .nili ∧ H' = [(0, pvV .nils Pr.zero), (1, mach f g pc true xt), (2, stP (.nils)), (3, mpV prV Pr.zero pres)] ∧ k' = 6 + 1) :=
    runs_nxHl ok.q (prIN ok.q.okA ok.q.ok ok.p g pc true xt pres q) g pc xt ⟨f, [], Pr.zero⟩
  refine ex_sound 2000 _ _ _ _ ?_; (simp (maxSteps := 4000000) only [f97, c97, LZ, seval, reduceCtorEq, forall_const])
  refine call_fA (runs_Copy ok.q.okA f g pc true xt) (by decide) (by ((try simp only [mach, LY, seval, reduceCtorEq, implies_true]); first | done | exact True.intro | rfl)) (by simp only [mach, LX, implies_true]) (by simp only [mach, LX, implies_true]) ?_
  (simp (maxSteps := 4000000) only [ren_mach, pr0, LZ, seval, reduceCtorEq, forall_const])
  refine call_pA (runs_Head ok.d f g pc true xt) (by ((try simp only [mach, hdV, LY, seval, reduceCtorEq, implies_true]); first | done | exact True.intro | rfl)) (by first | rfl | (simp only [LN, LP, V.ren, tup2, tup3])) (by simp only [mach, hdV, LX, implies_true]) ?_
  (simp (maxSteps := 4000000) only [tup2, hdV, LZ, seval, reduceCtorEq, forall_const])
  refine call_pA (runs_cRoot ok.q.okA f g pc true xt) (by ((try simp only [mach, dg, LY, seval, reduceCtorEq, implies_true]); first | done | exact True.intro | rfl)) (by first | rfl | (simp only [LN, LP, V.ren, tup2, tup3])) (by simp only [mach, dg, LX, implies_true]) ?_
  (simp (maxSteps := 4000000) only [tup2, LZ, seval, reduceCtorEq, forall_const])
  refine call_mN [197, 149, 1, 2, 3, 4] [197, 149, 1, 2] (hN) (by rfl) (by rfl) (by decide) (by rfl) (by rfl) (by ((try simp only [pvV, st2, stP, hdV, LMS, LY, seval, reduceCtorEq, implies_true]); first | done | exact True.intro | rfl)) (by ((try simp only [pvV, st2, stP, hdV, LMS, LY, seval, reduceCtorEq, implies_true]); first | done | exact True.intro | rfl)) ?_
  (simp (maxSteps := 4000000) only [tup2, pvV, stP, hdV, ren_mach, LM, LZ, seval, reduceCtorEq, forall_const])
  refine RetS.mk hx [0, 1, 2, 3, 4] [] _ _ _ (by decide) (by (simp only [LV, pvR, spV, tup2, Mc.h, Hd.v, hdV, st2, dg, List.length_nil, LM, LMS, LZ, seval, reduceCtorEq, forall_const])) (by ((try simp only [LV, pvR, spV, tup2, Mc.h, Hd.v, hdV, st2, dg, List.length_nil, LM, LMS, LZ, seval, reduceCtorEq, forall_const, LY, seval, reduceCtorEq, implies_true]); first | done | exact True.intro | (intros; rfl))) (by ((try simp only [pvR, spV, tup2, Mc.h, Hd.v, hdV, st2, dg, List.length_nil, LM, LMS, LY, seval, reduceCtorEq, implies_true]); first | done | exact True.intro | (intros; rfl))) ⟨rfl, rfl, rfl⟩
theorem runs_PvOutN {M : Seat} (ok : OkOs M) (f g : Nat → BitVec 64) (pc xt : BitVec 64) (hpc : 8192#64 ≤ pc) (pres : List (Dg × Pr)) (q : Nat) :
    Runs M 97 [.ptr 0 [], .ptr 1 []] [(0, mach f g pc false xt), (1, st2 (.nils)), (2, mpV prV Pr.zero pres)] 5
      (fun r H' k' => r = pvR ⟨f, g, pc, false, xt⟩ none [] Pr.zero ∧ H' = [(0, mach f g pc false xt), (1, st2 (.nils)), (2, mpV prV Pr.zero pres)] ∧ k' = 5) := by
  refine runs_fr ok.k97 rfl fun x hx => ?_
  have hN : Runs M 241 [hdV g pc false xt, .ifc 422 (.ptr 0 [])] [(0, pvV .nils Pr.zero), (1, mach f g pc false xt), (2, stP (.nils)), (3, mpV prV Pr.zero pres)] 6 (fun r H' k' => r = tup2 (hdV g pc true wrongW) .nili ∧ H' = [(0, pvV .nils Pr.zero), (1, mach f g pc false xt), (2, stP (.nils)), (3, mpV prV Pr.zero pres)] ∧ k' = 6 + 1) :=
    runs_nxOut ok.q (prIN ok.q.okA ok.q.ok ok.p g pc false xt pres q) g pc xt ⟨f, [], Pr.zero⟩ hpc
  refine ex_sound 2000 _ _ _ _ ?_; (simp (maxSteps := 4000000) only [f97, c97, LZ, seval, reduceCtorEq, forall_const])
  refine call_fA (runs_Copy ok.q.okA f g pc false xt) (by decide) (by ((try simp only [mach, LY, seval, reduceCtorEq, implies_true]); first | done | exact True.intro | rfl)) (by simp only [mach, LX, implies_true]) (by simp only [mach, LX, implies_true]) ?_
  (simp (maxSteps := 4000000) only [ren_mach, pr0, LZ, seval, reduceCtorEq, forall_const])
  refine call_pA (runs_Head ok.d f g pc false xt) (by ((try simp only [mach, hdV, LY, seval, reduceCtorEq, implies_true]); first | done | exact True.intro | rfl)) (by first | rfl | (simp only [LN, LP, V.ren, tup2, tup3])) (by simp only [mach, hdV, LX, implies_true]) ?_
  (simp (maxSteps := 4000000) only [tup2, hdV, LZ, seval, reduceCtorEq, forall_const])
  refine call_pA (runs_cRoot ok.q.okA f g pc false xt) (by ((try simp only [mach, dg, LY, seval, reduceCtorEq, implies_true]); first | done | exact True.intro | rfl)) (by first | rfl | (simp only [LN, LP, V.ren, tup2, tup3])) (by simp only [mach, dg, LX, implies_true]) ?_
  (simp (maxSteps := 4000000) only [tup2, LZ, seval, reduceCtorEq, forall_const])
  refine call_mN [197, 149, 1, 2, 3, 4] [197, 149, 1, 2] (hN) (by rfl) (by rfl) (by decide) (by rfl) (by rfl) (by ((try simp only [pvV, st2, stP, hdV, LMS, LY, seval, reduceCtorEq, implies_true]); first | done | exact True.intro | rfl)) (by ((try simp only [pvV, st2, stP, hdV, LMS, LY, seval, reduceCtorEq, implies_true]); first | done | exact True.intro | rfl)) ?_
  (simp (maxSteps := 4000000) only [tup2, pvV, stP, hdV, ren_mach, LM, LZ, seval, reduceCtorEq, forall_const])
  refine RetS.mk hx [0, 1, 2, 3, 4] [] _ _ _ (by decide) (by (simp only [LV, pvR, spV, tup2, Mc.h, Hd.v, hdV, st2, dg, List.length_nil, LM, LMS, LZ, seval, reduceCtorEq, forall_const])) (by ((try simp only [LV, pvR, spV, tup2, Mc.h, Hd.v, hdV, st2, dg, List.length_nil, LM, LMS, LZ, seval, reduceCtorEq, forall_const, LY, seval, reduceCtorEq, implies_true]); first | done | exact True.intro | (intros; rfl))) (by ((try simp only [pvR, spV, tup2, Mc.h, Hd.v, hdV, st2, dg, List.length_nil, LM, LMS, LY, seval, reduceCtorEq, implies_true]); first | done | exact True.intro | (intros; rfl))) ⟨rfl, rfl, rfl⟩
theorem runs_PvNN {M : Seat} (ok : OkOs M) (f g : Nat → BitVec 64) (pc xt : BitVec 64) (hpc : ¬ 8192#64 ≤ pc) (pres : List (Dg × Pr)) (q : Nat) (h1 : Hd) (e : Option Int) (s1 : Ps) (hq : nx (prM pres) ⟨g, pc, false, xt⟩ ⟨f, [], Pr.zero⟩ = (h1, e, s1)) :
    Runs M 97 [.ptr 0 [], .ptr 1 []] [(0, mach f g pc false xt), (1, st2 (.nils)), (2, mpV prV Pr.zero pres)] 5
      (fun r H' k' => r = pvR ⟨f, g, pc, false, xt⟩ e s1.l s1.pre ∧ H' = [(0, mach f g pc false xt), (1, st2 (.nils)), (2, mpV prV Pr.zero pres)] ∧ k' = 5) := by
  refine runs_fr ok.k97 rfl fun x hx => ?_
  obtain ⟨g1, pc1, hl1, xt1⟩ := h1
  obtain ⟨f1, l1, pre1⟩ := s1
  have hN : Runs M 241 [hdV g pc false xt, .ifc 422 (.ptr 0 [])] [(0, pvV .nils Pr.zero), (1, mach f g pc false xt), (2, stP (.nils)), (3, mpV prV Pr.zero pres)] 6 (fun r H' k' => r = tup2 (hdV g1 pc1 hl1 xt1) (erO e) ∧ H' = [(0, pvV (.sl 6 [] 0 l1.length 2) pre1), (1, mach f1 g pc false xt), (2, stP (.nils)), (3, mpV prV Pr.zero pres), (6, .ar 2 l1.length (pfs l1))] ∧ k' = 6 + 1) :=
    runs_next ok.q (prIN ok.q.okA ok.q.ok ok.p g pc false xt pres q) ⟨g, pc, false, xt⟩ ⟨f, [], Pr.zero⟩ rfl rfl hpc _ hq
  refine ex_sound 2000 _ _ _ _ ?_; (simp (maxSteps := 4000000) only [f97, c97, LZ, seval, reduceCtorEq, forall_const])
  refine call_fA (runs_Copy ok.q.okA f g pc false xt) (by decide) (by ((try simp only [mach, LY, seval, reduceCtorEq, implies_true]); first | done | exact True.intro | rfl)) (by simp only [mach, LX, implies_true]) (by simp only [mach, LX, implies_true]) ?_
  (simp (maxSteps := 4000000) only [ren_mach, pr0, LZ, seval, reduceCtorEq, forall_const])
  refine call_pA (runs_Head ok.d f g pc false xt) (by ((try simp only [mach, hdV, LY, seval, reduceCtorEq, implies_true]); first | done | exact True.intro | rfl)) (by first | rfl | (simp only [LN, LP, V.ren, tup2, tup3])) (by simp only [mach, hdV, LX, implies_true]) ?_
  (simp (maxSteps := 4000000) only [tup2, hdV, LZ, seval, reduceCtorEq, forall_const])
  refine call_pA (runs_cRoot ok.q.okA f g pc false xt) (by ((try simp only [mach, dg, LY, seval, reduceCtorEq, implies_true]); first | done | exact True.intro | rfl)) (by first | rfl | (simp only [LN, LP, V.ren, tup2, tup3])) (by simp only [mach, dg, LX, implies_true]) ?_
  (simp (maxSteps := 4000000) only [tup2, LZ, seval, reduceCtorEq, forall_const])
  cases e with
  | none =>
    refine call_mN [197, 149, 1, 2, 3, 4] [197, 149, 1, 2] (hN) (by rfl) (by rfl) (by decide) (by rfl) (by rfl) (by ((try simp only [pvV, st2, stP, hdV, LMS, LY, seval, reduceCtorEq, implies_true]); first | done | exact True.intro | rfl)) (by ((try simp only [pvV, st2, stP, hdV, LMS, LY, seval, reduceCtorEq, implies_true]); first | done | exact True.intro | rfl)) ?_
    (simp (maxSteps := 4000000) only [tup2, pvV, stP, hdV, erN_none, ren_mach, ren_pfs, LM, LZ, seval, reduceCtorEq, forall_const])
    refine RetS.mk hx [0, 1, 2, 3, 4] [533] (pvR ⟨f, g, pc, false, xt⟩ none l1 pre1) [(0, mach f g pc false xt), (1, st2 (.nils)), (2, mpV prV Pr.zero pres)] 5 (by decide) (by (simp only [LV, LM, LZ, seval, reduceCtorEq, forall_const])) ?_ ?_ ⟨rfl, rfl, rfl⟩
    · simp only [LV, pvR, spV, tup2, Mc.h, Hd.v, hdV, dg, LM, LMS, LZ, seval, reduceCtorEq, forall_const, LY, seval, reduceCtorEq, implies_true]
      refine ⟨by rfl, fun i hi => ?_⟩
      try rw [Nat.zero_add]
      exact Sim_pfV _ _ _ _
    · simp only [st2, LMS, LY, seval, reduceCtorEq, implies_true]
  | some n =>
    refine call_mN [197, 149, 1, 2, 3, 4] [197, 149, 1, 2] (hN) (by rfl) (by rfl) (by decide) (by rfl) (by rfl) (by ((try simp only [pvV, st2, stP, hdV, LMS, LY, seval, reduceCtorEq, implies_true]); first | done | exact True.intro | rfl)) (by ((try simp only [pvV, st2, stP, hdV, LMS, LY, seval, reduceCtorEq, implies_true]); first | done | exact True.intro | rfl)) ?_
    (simp (maxSteps := 4000000) only [tup2, pvV, stP, hdV, erN_some, ren_mach, ren_pfs, LM, pr0, LZ, seval, reduceCtorEq, forall_const])
    refine RetS.mk hx [0, 1, 2, 3, 4] [] _ _ _ (by decide) (by (simp only [LV, pvR, spV, tup2, Mc.h, Hd.v, hdV, st2, dg, List.length_nil, prV, Pr.at_zero, LM, LMS, LZ, seval, reduceCtorEq, forall_const])) (by ((try simp only [LV, pvR, spV, tup2, Mc.h, Hd.v, hdV, st2, dg, List.length_nil, prV, Pr.at_zero, LM, LMS, LZ, seval, reduceCtorEq, forall_const, LY, seval, reduceCtorEq, implies_true]); first | done | exact True.intro | (intros; rfl))) (by ((try simp only [pvR, spV, tup2, Mc.h, Hd.v, hdV, st2, dg, List.length_nil, prV, Pr.at_zero, LM, LMS, LY, seval, reduceCtorEq, implies_true]); first | done | exact True.intro | (intros; rfl))) ⟨rfl, rfl, rfl⟩
/-- What Verify comes to. -/
def vfE (c : Ck) (h : Hd) : Dg × Option Int := if c.l = [] then (pair c.root (headD h.g h.pc h.hl h.xt), none) else (Dg.zero, some 3)
def vfX (e : Option Int) (c : Ck) (h : Hd) : Dg × Option Int := match e with
  | some n => (Dg.zero, some n)
  | none => vfE c h
def vfy (claim root : Dg) (h : Hd) (l : List Pf) (pre : Pr) : Dg × Option Int :=
  if ¬ pair root (headD h.g h.pc h.hl h.xt) = claim then (Dg.zero, some 31)
  else if h.hl = true then vfE ⟨root, l, pre⟩ h
  else if 8192#64 ≤ h.pc then vfE ⟨root, l, pre⟩ (h.stop wrongW)
  else vfX (nx ckM h ⟨root, l, pre⟩).2.1 (nx ckM h ⟨root, l, pre⟩).2.2 (nx ckM h ⟨root, l, pre⟩).1

theorem runs_VfBad {M : Seat} (ok : OkOs M) (claim root : Dg) (g : Nat → BitVec 64) (pc : BitVec 64) (hl : Bool) (xt : BitVec 64) (l : List Pf) (pre : Pr) (hc : ¬ pair root (headD g pc hl xt) = claim) :
    Runs M 98 [dg claim, spV root ⟨g, pc, hl, xt⟩ l pre] [] 0 (fun r H' k' => r = tup2 (dg Dg.zero) (erO (some 31)) ∧ H' = [] ∧ k' = 0) := by
  refine runs_fr ok.k98 rfl fun x hx => ?_
  refine ex_sound 2000 _ _ _ _ ?_; (simp (maxSteps := 4000000) only [f98, c98, spV, Hd.v, hdV, LM, LZ, seval, reduceCtorEq, forall_const])
  refine opd_pA (runs_Join ok.q.okA ok.d root g pc hl xt) (by ((try simp only [dg, hdV, LY, seval, reduceCtorEq, implies_true]); first | done | exact True.intro | rfl)) (by first | rfl | (simp only [LN, LP, V.ren, tup2, tup3])) (by simp only [dg, hdV, LX, implies_true]) ?_
  (simp (maxSteps := 4000000) only [eq_false hc, LM, dg0, LZ, seval, reduceCtorEq, forall_const])
  refine RetS.mk hx [] [] _ _ _ (by decide) (by (simp only [LV, erN_some, dg, LM, LZ, seval, reduceCtorEq, forall_const])) (by ((try simp only [LV, erN_some, dg, LM, LZ, seval, reduceCtorEq, forall_const, LY, seval, reduceCtorEq, implies_true]); first | done | exact True.intro | (intros; rfl))) (by ((try simp only [erN_some, dg, LM, LY, seval, reduceCtorEq, implies_true]); first | done | exact True.intro | (intros; rfl))) ⟨rfl, rfl, rfl⟩
theorem runs_VfX {M : Seat} (ok : OkOs M) (root : Dg) (g : Nat → BitVec 64) (pc : BitVec 64) (hl : Bool) (xt : BitVec 64) (l : List Pf) (pre : Pr) (g1 : Nat → BitVec 64) (pc1 : BitVec 64) (hl1 : Bool) (xt1 : BitVec 64) (e : Option Int) (c1 : Ck)
    (hN : Runs M 241 [hdV g pc hl xt, .ifc 426 (.ptr 0 [])] [(0, (⟨root, l, pre⟩ : Ck).vv)] 1 (fun r H' k' => r = tup2 (hdV g1 pc1 hl1 xt1) (erO e) ∧ H' = [(0, c1.vv)] ∧ k' = 2)) (q : Dg × Option Int) (hq : vfX e c1 ⟨g1, pc1, hl1, xt1⟩ = q) :
    Runs M 98 [dg (pair root (headD g pc hl xt)), spV root ⟨g, pc, hl, xt⟩ l pre] [] 0 (fun r H' k' => r = tup2 (dg q.1) (erO q.2) ∧ H' = [] ∧ k' = 0) := by
  refine runs_fr ok.k98 rfl fun x hx => ?_
  obtain ⟨root1, l1, pre1⟩ := c1
  cases e with
  | some n =>
    have hq : (Dg.zero, some n) = q := hq
    subst hq
    refine ex_sound 2000 _ _ _ _ ?_; (simp (maxSteps := 4000000) only [f98, c98, spV, Hd.v, hdV, LM, LZ, seval, reduceCtorEq, forall_const])
    refine opd_pA (runs_Join ok.q.okA ok.d root g pc hl xt) (by ((try simp only [dg, hdV, LY, seval, reduceCtorEq, implies_true]); first | done | exact True.intro | rfl)) (by first | rfl | (simp only [LN, LP, V.ren, tup2, tup3])) (by simp only [dg, hdV, LX, implies_true]) ?_
    (simp (maxSteps := 4000000) only [LM, LZ, seval, reduceCtorEq, forall_const])
    refine call_mN [400] [400] (hN) (by rfl) (by rfl) (by decide) (by rfl) (by rfl) (by ((try simp only [Ck.vv, hdV, dg, Sim_pfs, LMS, LY, seval, reduceCtorEq, implies_true]); first | done | exact True.intro | rfl)) (by ((try simp only [Ck.vv, hdV, dg, Sim_pfs, LMS, LY, seval, reduceCtorEq, implies_true]); first | done | exact True.intro | rfl)) ?_
    (simp (maxSteps := 4000000) only [Ck.vv, tup2, hdV, erN_some, ren_pfs, LM, dg0, LZ, seval, reduceCtorEq, forall_const])
    refine RetS.mk hx [] [] _ _ _ (by decide) (by (simp only [LV, erN_some, dg, LM, LZ, seval, reduceCtorEq, forall_const])) (by ((try simp only [LV, erN_some, dg, LM, LZ, seval, reduceCtorEq, forall_const, LY, seval, reduceCtorEq, implies_true]); first | done | exact True.intro | (intros; rfl))) (by ((try simp only [erN_some, dg, LM, LY, seval, reduceCtorEq, implies_true]); first | done | exact True.intro | (intros; rfl))) ⟨rfl, rfl, rfl⟩
  | none =>
    have hq : vfE ⟨root1, l1, pre1⟩ ⟨g1, pc1, hl1, xt1⟩ = q := hq
    cases l1 with
    | nil =>
      rw [vfE, if_pos rfl] at hq
      subst hq
      refine ex_sound 2000 _ _ _ _ ?_; (simp (maxSteps := 4000000) only [f98, c98, spV, Hd.v, hdV, LM, LZ, seval, reduceCtorEq, forall_const])
      refine opd_pA (runs_Join ok.q.okA ok.d root g pc hl xt) (by ((try simp only [dg, hdV, LY, seval, reduceCtorEq, implies_true]); first | done | exact True.intro | rfl)) (by first | rfl | (simp only [LN, LP, V.ren, tup2, tup3])) (by simp only [dg, hdV, LX, implies_true]) ?_
      (simp (maxSteps := 4000000) only [LM, LZ, seval, reduceCtorEq, forall_const])
      refine call_mN [400] [400] (hN) (by rfl) (by rfl) (by decide) (by rfl) (by rfl) (by ((try simp only [Ck.vv, hdV, dg, Sim_pfs, LMS, LY, seval, reduceCtorEq, implies_true]); first | done | exact True.intro | rfl)) (by ((try simp only [Ck.vv, hdV, dg, Sim_pfs, LMS, LY, seval, reduceCtorEq, implies_true]); first | done | exact True.intro | rfl)) ?_
      (simp (maxSteps := 4000000) only [Ck.vv, tup2, hdV, erN_none, ren_pfs, LM, dg0, List.length_nil, LZ, seval, reduceCtorEq, forall_const])
      refine opd_pA (runs_Join ok.q.okA ok.d root1 g1 pc1 hl1 xt1) (by ((try simp only [dg, hdV, LY, seval, reduceCtorEq, implies_true]); first | done | exact True.intro | rfl)) (by first | rfl | (simp only [LN, LP, V.ren, tup2, tup3])) (by simp only [dg, hdV, LX, implies_true]) ?_
      (simp (maxSteps := 4000000) only [LM, LZ, seval, reduceCtorEq, forall_const])
      refine RetS.mk hx [] [] _ _ _ (by decide) (by (simp only [LV, erN_none, dg, LM, LZ, seval, reduceCtorEq, forall_const])) (by ((try simp only [LV, erN_none, dg, LM, LZ, seval, reduceCtorEq, forall_const, LY, seval, reduceCtorEq, implies_true]); first | done | exact True.intro | (intros; rfl))) (by ((try simp only [erN_none, dg, LM, LY, seval, reduceCtorEq, implies_true]); first | done | exact True.intro | (intros; rfl))) ⟨rfl, rfl, rfl⟩
    | cons p l1 =>
      rw [vfE, if_neg (by simp)] at hq
      subst hq
      have h0 : ((0 : Int) < ((l1.length + 1 : Nat) : Int)) = True := eq_true (by omega)
      refine ex_sound 2000 _ _ _ _ ?_; (simp (maxSteps := 4000000) only [f98, c98, spV, Hd.v, hdV, LM, LZ, seval, reduceCtorEq, forall_const])
      refine opd_pA (runs_Join ok.q.okA ok.d root g pc hl xt) (by ((try simp only [dg, hdV, LY, seval, reduceCtorEq, implies_true]); first | done | exact True.intro | rfl)) (by first | rfl | (simp only [LN, LP, V.ren, tup2, tup3])) (by simp only [dg, hdV, LX, implies_true]) ?_
      (simp (maxSteps := 4000000) only [LM, LZ, seval, reduceCtorEq, forall_const])
      refine call_mN [400] [400] (hN) (by rfl) (by rfl) (by decide) (by rfl) (by rfl) (by ((try simp only [Ck.vv, hdV, dg, Sim_pfs, LMS, LY, seval, reduceCtorEq, implies_true]); first | done | exact True.intro | rfl)) (by ((try simp only [Ck.vv, hdV, dg, Sim_pfs, LMS, LY, seval, reduceCtorEq, implies_true]); first | done | exact True.intro | rfl)) ?_
      (simp (maxSteps := 4000000) only [Ck.vv, tup2, hdV, erN_none, ren_pfs, LM, dg0, List.length_cons, h0, LZ, seval, reduceCtorEq, forall_const])
      refine RetS.mk hx [] [] _ _ _ (by decide) (by (simp only [LV, erN_some, dg, LM, LZ, seval, reduceCtorEq, forall_const])) (by ((try simp only [LV, erN_some, dg, LM, LZ, seval, reduceCtorEq, forall_const, LY, seval, reduceCtorEq, implies_true]); first | done | exact True.intro | (intros; rfl))) (by ((try simp only [erN_some, dg, LM, LY, seval, reduceCtorEq, implies_true]); first | done | exact True.intro | (intros; rfl))) ⟨rfl, rfl, rfl⟩
theorem runs_Verify {M : Seat} (ok : OkOs M) (claim root : Dg) (h : Hd) (l : List Pf) (pre : Pr) :
    Runs M 98 [dg claim, spV root h l pre] [] 0 (fun r H' k' => r = tup2 (dg (vfy claim root h l pre).1) (erO (vfy claim root h l pre).2) ∧ H' = [] ∧ k' = 0) := by
  obtain ⟨g, pc, hl, xt⟩ := h
  unfold vfy
  by_cases hc : pair root (headD g pc hl xt) = claim
  · rw [if_neg (fun h => h hc)]
    subst hc
    cases hl with
    | true =>
      rw [if_pos rfl]
      exact runs_VfX ok root g pc true xt l pre g pc true xt none ⟨root, l, pre⟩ (runs_nxHl ok.q (ckI ok.q.okA ok.q.ok.toOkH ok.c) g pc xt ⟨root, l, pre⟩) _ rfl
    | false =>
      rw [if_neg (by simp)]
      by_cases hpc : 8192#64 ≤ pc
      · rw [if_pos hpc]
        exact runs_VfX ok root g pc false xt l pre g pc true wrongW none ⟨root, l, pre⟩ (runs_nxOut ok.q (ckI ok.q.okA ok.q.ok.toOkH ok.c) g pc xt ⟨root, l, pre⟩ hpc) _ rfl
      · rw [if_neg hpc]
        generalize hq : nx ckM ⟨g, pc, false, xt⟩ ⟨root, l, pre⟩ = q
        obtain ⟨⟨g1, pc1, hl1, xt1⟩, e, c1⟩ := q
        exact runs_VfX ok root g pc false xt l pre g1 pc1 hl1 xt1 e c1 (runs_next ok.q (ckI ok.q.okA ok.q.ok.toOkH ok.c) ⟨g, pc, false, xt⟩ ⟨root, l, pre⟩ trivial rfl hpc _ hq) _ rfl
  · rw [if_pos hc]
    exact runs_VfBad ok claim root g pc hl xt l pre hc
end Mv
namespace Mv
open Go
set_option maxRecDepth 20000
set_option maxHeartbeats 4000000
set_option linter.unusedSimpArgs false

/-- The machine behind what a head's step comes to. -/
def finX (m : Mc) (q : Hd × Option Int × Ps) : Mc := match q.2.1 with
  | none => ⟨q.2.2.f, q.1.g, q.1.pc, q.1.hl, q.1.xt⟩
  | some _ => ⟨m.f, m.g, m.pc, true, missW⟩
def stepX (pres : List (Dg × Pr)) (m : Mc) : Mc :=
  if m.hl = true then m else if 8192#64 ≤ m.pc then ⟨m.f, m.g, m.pc, true, wrongW⟩
  else finX m (nx (prM pres) m.h ⟨m.f, [], Pr.zero⟩)
end Mv
