/- A part. -/
import Derived.Test.YtncipgmjhaiagaaGreatDoorDJ
import Derived.Test.YtncipgmjhaiagaaGreatDoorDM
set_option linter.all false
set_option maxRecDepth 20000
set_option maxHeartbeats 4000000
namespace Mv
open Go
def two (a b : Dg) (j : Nat) : BitVec 8 := if j < 32 then a.at j else b.at (j - 32)
theorem Aig (a b : Dg) : pd (two a b) = UR a b := by
 funext j
 unfold pd two UR
 repeat' split
 all_goals first | rfl | omega
theorem Oe {M : Seat} (ok : OkB M) (a b : Dg) :
 Af M 206 [dg a, dg b] [] 0 (Q3 (dg (B2 a b)) [] 0) := by
 refine Ac ok.k206 rfl fun x hx => ?_
 refine es 30 ?_
 simp only [Adx, Ak3, dg, Dx, ↓Ab, A5, Ad, seval]
 refine GQ [144] (CC ok (two a b)) ?_ rfl ?_
 ·simp only [A7, seval]
  intro j hj
  unfold two
  by_cases h1 : j < 32
  ·simp only [if_pos h1, Nat.not_lt_zero, if_false, Nat.sub_zero]
   exact (Gv _ _ _ _ _).mpr rfl
  ·simp only [if_neg h1]
   exact (Gv _ _ _ _ _).mpr rfl
 simp only [A4, dg, Dx, ↓Ab, A5, Ad, seval]
 refine Aq.mk hx [] [] (dg (B2 a b)) [] 0 Ak ?_ ?_ trivial ⟨rfl, rfl, rfl⟩
 ·simp only [Lc, ↓Ab, ex, Ro, AC, A5, Ad, seval]
 ·simp only [Lb, ↓Ab, ex, Ro, AC, A5, Ad, seval]
  intro j _
  rw [Aig]; rfl
theorem R4 {M : Seat} (ok : OkB M) :
 Af M 205 [] [] 0 (Q3 (.sl 0 [] 0 17 32) [(0, .ar 32 17 (fun j => dg (Am j)))] 1) := by
 refine Ac ok.k205 rfl fun x hx => ?_
 refine es 30 ?_
 simp only [Afw, Alm, Dx, ↓Ab, A5, Ad, seval]
 repeat refine sd ?_
 refine Ag (σ := Nat) (fun i => i ≤ 16) (fun i => fr 21 [(1, .sl 0 [] 0 (i + 1) 32), (2, .int .i64 i)])
  (fun i => [(0, .ar 32 (i + 1) (fun j => dg (Am j)))]) (fun _ => 1) (fun i => 16 - i) 0 Aa ?_ ?_
 ·refine Aj.fr [16] [] hx Ax Ak ?_ ?_
  ·simp only [A7, seval]
  ·simp only [A7, seval, Yf]
   intro j hj
   have : j = 0 := Aa
   subst this; rfl
 ·intro i hi
  by_cases h16 : i = 16
  ·subst h16
   have d0 : decide (((16 : Nat) : Int) < 16) = false := rfl
   (refine es 30 ?_; simp (maxSteps := 2000000) only [d0, Dx, ↓Ab, A5, Ad, seval])
   refine Aq.mk hx [0] [] (.sl 0 [] 0 17 32) [(0, .ar 32 17 (fun j => dg (Am j)))] 1 Ak ?_ ?_ ?_ ⟨rfl, rfl, rfl⟩
   ·simp only [Lc, ↓Ab, ex, Ro, AC, A5, Ad, seval]
   ·simp only [Lb, ↓Ab, ex, Ro, AC, A5, Ad, seval]
   ·simp only [A7, seval]
  ·have d0 : decide ((i : Int) < 16) = true := decide_eq_true Aa
   have w1 : IntKind.i64.wrap ((i : Int) + 1) = ((i + 1 : Nat) : Int) := A9
   (refine es 30 ?_; simp (maxSteps := 2000000) only [d0, w1, Dx, ↓Ab, A5, Ad, seval])
   repeat refine sd ?_
   refine ⟨_, _, AB (Oe ok _ _) ⟨(AJ _ _ _ _ _).mpr rfl, (AJ _ _ _ _ _).mpr rfl, trivial⟩ rfl ⟨rfl, rfl⟩, ?_⟩
   simp only [Dx, ↓Ab, A5, Ad, seval]
   repeat refine sd ?_
   refine ⟨i + 1, by omega, by omega, ?_⟩
   refine Aj.fr [417] [] hx Ax Ak ?_ ?_
   ·simp only [A7, seval]
   ·simp only [A7, seval]
    intro j hj
    by_cases h1 : j < i + 1
    ·rw [if_pos h1]; exact (AJ _ _ _ _ _).mpr rfl
    ·have : j = i + 1 := Aa
     subst this
     rw [if_neg h1, if_pos Aa]
     exact (AJ _ _ _ _ _).mpr rfl
variable {M : Seat}
structure OkR (M : Seat) : Prop where
 k73 : Al M 73 f73 = true
 k218 : Al M 218 Ahk = true
 k219 : Al M 219 QT = true
 k329 : Al M 329 Ahn = true
 k330 : Al M 330 Wj = true
theorem F3 (ok : OkR M) (a b : Dg) : Af M 329 [dg a, dg b] [] 0 (Q3 (At (CM a b)) [] 0) := by
 refine Ac ok.k329 rfl fun x hx => ?_
 refine es 2000 ?_; (simp only [Ahn, Akb, dg, LZ, seval])
 refine Ag (σ := Nat) (fun i => i ≤ 32) (fun i => fr 23 [(2, .ptr 0 []), (3, .ptr 1 []), (4, .ptr 2 []), (5, .ptr 3 []), (6, .int .i64 i)])
  (fun i => [(0, dg a), (1, dg b), (2, At Pr.zero), (3, .ar 1 64 fun j => B (if j < i then a.at j else if 32 ≤ j ∧ j < 32 + i then b.at (j - 32) else 0#8))]) (fun _ => 4) (fun i => 32 - i) 0 Aa ?_ ?_
 ·refine Aj.fr [0, 16, 32, 48] [] hx Ax Ak ?_ ?_
  ·simp only [LY, seval]
  ·simp only [OS, LY, seval]
   intro j hj
   rw [if_neg Aa, if_neg Aa]
 ·intro i hi
  refine es 2000 ?_
  by_cases h32 : i = 32
  ·subst h32
   (simp only [At, LZ, seval])
   refine Aq.mk hx [] [] (At (CM a b)) [] 0 Ak (by simp only [Fk, At, seval]) ?_ trivial ⟨rfl, rfl, rfl⟩
   simp only [Fk, At, seval]
   simp only [At, LY, seval]
   intro j hj
   rw [CM, Pr.at_mk' _ _ hj]
   by_cases h : j < 32
   ·rw [if_pos h, if_pos h]
   ·rw [if_neg h, if_neg h, if_pos Aa]
  ·have d0 : ((i : Int) < 32) = True := eq_true Aa
   have w0 : IntKind.i64.wrap ((i : Int) + 1) = ((i + 1 : Nat) : Int) := A9
   have w1 : IntKind.i64.wrap (32 + (i : Int)) = ((32 + i : Nat) : Int) := A9
   have d3 : (32 + i = i) = False := eq_false Aa
   (simp only [d0, w0, w1, d3, Fq, LZ, seval])
   repeat refine sd ?_
   refine ⟨i + 1, by omega, by omega, ?_⟩
   refine Aj.fr [0, 1, 2, 3] [] hx Ax Ak ?_ ?_
   ·simp only [LY, seval]
   ·simp only [OS, LY, seval]
    intro j hj
    by_cases e1 : j = 32 + i
    ·subst e1
     rw [if_pos rfl, if_neg Aa, if_pos Aa, show 32 + i - 32 = i by omega]; simp only [B, LY, seval]
    ·rw [if_neg e1]
     by_cases e2 : j = i
     ·subst e2
      rw [if_pos rfl, if_pos Aa]; simp only [B, LY, seval]
     ·rw [if_neg e2]
      by_cases e3 : j < i
      ·rw [if_pos e3, if_pos Aa]; simp only [B, LY, seval]
      ·rw [if_neg e3, if_neg (by omega : ¬ j < i + 1)]
       by_cases e4 : 32 ≤ j ∧ j < 32 + i
       ·rw [if_pos e4, if_pos Aa]; simp only [B, LY, seval]
       ·rw [if_neg e4, if_neg Aa]; simp only [B, LY, seval]
def BJ (hs ps : V) (met : Bool) : V := .st 4 (.fcons 0 hs (.fcons 1 ps (.fcons 2 .nils (.fcons 3 (.bool met) .fnil))))
def Ft := (aq2 @dg.eq_1 @BJ.eq_1)
theorem O6 (ok : OkR M) (h : Dg) (met : Bool) : Af M 330 [.ptr 0 [], dg h] [(0, BJ .nils .nils met)] 1 (Q3 (.int .i64 (-1)) [(0, BJ .nils .nils met)] 1) := by
 refine Ac ok.k330 rfl fun x hx => ?_
 refine es 2000 ?_; (simp only [Wj, Aah, BJ, LZ, seval])
 refine AZ ?_
 refine es 2000 ?_
 (simp only [LZ, seval])
 have zz := @BJ.eq_1; exact Bg hx [0] ⟨rfl, rfl, rfl⟩
theorem IW (ok : OkR M) (h : Dg) (n : Nat) (hs : Nat → Dg) (met : Bool) (hn : n < 4294967296) (i0 : Nat) (hi0 : i0 ≤ n) (hlow : ∀ j, j < i0 → ¬ hs j = h) (hend : i0 = n ∨ hs i0 = h) :
 Af M 330 [.ptr 0 [], dg h] [(0, BJ (.sl 1 [] 0 n 32) (.sl 2 [] 0 n 64) met), (1, .ar 32 n fun i => dg (hs i))] 3 (Q3 (.int .i64 (if i0 = n then -1 else (i0 : Int))) [(0, BJ (.sl 1 [] 0 n 32) (.sl 2 [] 0 n 64) met), (1, .ar 32 n fun i => dg (hs i))] 3) := by
 refine Ac ok.k330 rfl fun x hx => ?_
 refine es 2000 ?_; (simp only [Wj, Aah, BJ, LZ, seval])
 refine Ag (σ := Nat) (fun i => i ≤ i0) (fun i => fr 25 [(0, .ptr 0 []), (3, .ptr 3 []), (5, .int .i64 i)])
  (fun i => [(0, BJ (.sl 1 [] 0 n 32) (.sl 2 [] 0 n 64) met), (1, .ar 32 n fun i => dg (hs i)), (3, dg h)]) (fun _ => 4) (fun i => i0 - i) 0 Aa ?_ ?_
 ·refine Aj.fr [0, 1, 2, 3] [] hx Ax Ak ?_ ?_
  ·simp only [LY, seval]
  ·simp only [Ft, LY, seval]
 ·intro i hi
  refine es 2000 ?_
  by_cases hin : i = n
  ·subst hin
   have e0 : i0 = i := Aa
   subst e0
   have d0 : ((i0 : Int) < (i0 : Int)) = False := eq_false Aa
   rw [if_pos rfl]
   (simp only [BJ, d0, LZ, seval])
   have zz := Ft; exact Bg hx [0, 1, 2] ⟨rfl, rfl, rfl⟩
  ·have d0 : ((i : Int) < (n : Int)) = True := eq_true Aa
   have w0 : IntKind.i64.wrap ((i : Int) + 1) = ((i + 1 : Nat) : Int) := A9
   by_cases hf : hs i = h
   ·have e0 : i = i0 := by
     rcases Nat.lt_or_ge i i0 with h1 | h1
     ·exact absurd hf (hlow i h1)
     ·omega
    subst e0
    rw [if_neg hin]
    (simp only [BJ, d0, hf, LZ, seval])
    repeat refine sd ?_
    have zz := Ft; exact Bg hx [0, 1, 2] ⟨rfl, rfl, rfl⟩
   ·have hlt : i < i0 := by
     rcases Nat.lt_or_ge i i0 with h1 | h1
     ·exact h1
     ·rcases hend with h2 | h2
      ·omega
      ·exact absurd (by rw [show i = i0 by omega]; exact h2) hf
    (simp only [BJ, d0, w0, hf, LZ, seval])
    repeat refine sd ?_
    refine ⟨i + 1, by omega, by omega, ?_⟩
    refine Aj.fr [0, 1, 2, 3] [] hx Ax Ak ?_ ?_
    ·simp only [LY, seval]
    ·simp only [Ft, LY, seval]
variable {M : Seat}
def rh (l : List (Dg × Pr)) (i : Nat) : Dg := (l.getD i (Dg.zero, Pr.zero)).1
def rp (l : List (Dg × Pr)) (i : Nat) : Pr := (l.getD i (Dg.zero, Pr.zero)).2
def GT (l : List (Dg × Pr)) (met : Bool) : Hp := [(0, BJ (.sl 1 [] 0 l.length 32) (.sl 2 [] 0 l.length 64) met), (1, .ar 32 l.length fun i => dg (rh l i)), (2, .ar 64 l.length fun i => At (rp l i))]
noncomputable def CE (p : Pr) : Dg := Qf (HL (List.replicate 25 0) (pd p.at))
def Gq (l : List (Dg × Pr)) (h : Dg) : Nat := l.findIdx fun x => decide (x.1 = h)
theorem Dy (l : List (Dg × Pr)) (h : Dg) : Gq l h ≤ l.length := List.findIdx_le_length
theorem Ip (l : List (Dg × Pr)) (h : Dg) (j : Nat) (hj : j < Gq l h) : ¬ rh l j = h := by
 have := List.not_of_lt_findIdx hj
 have hl : j < l.length := Nat.lt_of_lt_of_le hj (Dy l h)
 rw [rh, List.getD_eq_getElem?_getD, List.getElem?_eq_getElem hl]
 simpa using this
theorem F1 (l : List (Dg × Pr)) (h : Dg) : Gq l h = l.length ∨ rh l (Gq l h) = h := by
 rcases Nat.lt_or_ge (Gq l h) l.length with hl | hl
 ·right
  have := List.findIdx_getElem (w := hl)
  rw [rh, List.getD_eq_getElem?_getD, List.getElem?_eq_getElem hl]
  exact of_decide_eq_true this
 ·left; have := Dy l h; omega
def RX (l : List (Dg × Pr)) (met : Bool) : Hp := [(0, BJ (.sl 3 [] 0 l.length 32) (.sl 4 [] 0 l.length 64) met), (3, .ar 32 l.length fun i => dg (rh l i)), (4, .ar 64 l.length fun i => At (rp l i))]
noncomputable def P4 (l : List (Dg × Pr)) (p : Pr) : List (Dg × Pr) := l.set (Gq l (CE p)) (CE p, p)
noncomputable def Xk (l : List (Dg × Pr)) (met : Bool) (p : Pr) : Bool := if rp l (Gq l (CE p)) = p then met else true
theorem Rh (okB : OkB M) (ok : OkR M) (p : Pr) (met : Bool) :
 Af M 219 [.ptr 0 [], At p] [(0, BJ .nils .nils met)] 1 (Q3 (dg (CE p)) (GT [(CE p, p)] met) 3) := by
 have hS : Af M 311 [.lst 1 64 (fun j => B (p.at j))] [] 0 (Q3 (dg (CE p)) [] 0) := CC okB p.at
 generalize CE p = D at *
 refine Ac ok.k219 rfl fun x hx => ?_
 refine es 2000 ?_; (simp only [QT, TG, At, LZ, seval])
 refine Ah (hS) ?_
 (simp only [dg, LZ, seval])
 have zz := Ft; refine Fl [0] (O6 ok D met) ?_
 (simp only [BJ, Fq, LZ, seval])
 refine Aq.mk hx [0, 465, 817] [] (dg D) (GT [(D, p)] met) 3 Ak (by simp only [Fk, dg, seval]) (by simp only [IT, dg, seval]) ?_ ⟨rfl, rfl, rfl⟩
 simp only [GT, BJ, Fq, List.length_cons, List.length_nil, Nat.zero_add, CF, seval]
 refine ⟨fun i hi => ?_, fun i hi => ?_⟩
 all_goals obtain rfl : i = 0 := Aa
 all_goals simp only [if_true, rh, rp, List.getD_cons_zero, LY, seval]
theorem Yg (l : List (Dg × Pr)) (h : Dg) (p : Pr) (i : Nat) (hi : i < l.length + 1) : rh (l ++ [(h, p)]) i = if i < l.length then rh l i else h := by
 by_cases hl : i < l.length
 ·rw [if_pos hl, rh, rh, List.getD_eq_getElem?_getD, List.getD_eq_getElem?_getD, List.getElem?_append_left hl]
 ·obtain rfl : i = l.length := Aa
  rw [if_neg hl, rh, List.getD_eq_getElem?_getD, List.getElem?_append_right (Nat.le_refl _)]; simp
theorem VH (l : List (Dg × Pr)) (h : Dg) (p : Pr) (i : Nat) (hi : i < l.length + 1) : rp (l ++ [(h, p)]) i = if i < l.length then rp l i else p := by
 by_cases hl : i < l.length
 ·rw [if_pos hl, rp, rp, List.getD_eq_getElem?_getD, List.getD_eq_getElem?_getD, List.getElem?_append_left hl]
 ·obtain rfl : i = l.length := Aa
  rw [if_neg hl, rp, List.getD_eq_getElem?_getD, List.getElem?_append_right (Nat.le_refl _)]; simp
theorem Na (l : List (Dg × Pr)) (h : Dg) (p : Pr) (k : Nat) (hk : rh l k = h) (i : Nat) : rh (l.set k (h, p)) i = rh l i := by
 rw [rh, List.getD_eq_getElem?_getD, List.getElem?_set]
 split
 ·rename_i e; subst e
  split
  ·simp [hk]
  ·rename_i h2; rw [rh, List.getD_eq_getElem?_getD, List.getElem?_eq_none Aa]
 ·rw [rh, List.getD_eq_getElem?_getD]
theorem Ng (l : List (Dg × Pr)) (h : Dg) (p : Pr) (k : Nat) (i : Nat) (hi : i < l.length) : rp (l.set k (h, p)) i = if i = k then p else rp l i := by
 rw [rp, List.getD_eq_getElem?_getD, List.getElem?_set]
 by_cases e : k = i
 ·subst e
  rw [if_pos rfl, if_pos rfl, if_pos hi]; rfl
 ·rw [if_neg e, if_neg (Ne.symm e), rp, List.getD_eq_getElem?_getD]
theorem JW (okB : OkB M) (ok : OkR M) (p : Pr) (met : Bool) (l : List (Dg × Pr)) (hl : l.length < 4294967296) (hk : Gq l (CE p) = l.length) :
 Af M 219 [.ptr 0 [], At p] (GT l met) 3 (Q3 (dg (CE p)) (RX (l ++ [(CE p, p)]) met) 5) := by
 have hS : Af M 311 [.lst 1 64 (fun j => B (p.at j))] [] 0 (Q3 (dg (CE p)) [] 0) := CC okB p.at
 generalize CE p = D at *
 have hI := IW ok D l.length (rh l) met hl (Gq l D) (Dy l D) (Ip l D) (F1 l D)
 simp only [if_pos hk] at hI
 refine Ac ok.k219 rfl fun x hx => ?_
 refine es 2000 ?_; (simp only [QT, TG, At, GT, BJ, LZ, seval])
 refine Ah (hS) ?_
 (simp only [dg, LZ, seval])
 have zz := Ft; refine JO [0, 1, 2] [0, 1] (hI) ?_
 (simp only [BJ, Fq, LZ, seval])
 repeat refine sd ?_
 refine Aq.mk hx [0, 1, 2, 467, 819] [] (dg D) (RX (l ++ [(D, p)]) met) 5 Ak (by simp only [Fk, dg, seval]) (by simp only [IT, dg, seval]) ?_ ⟨rfl, rfl, rfl⟩
 simp only [RX, BJ, Fq, Lc4, Nat.zero_add, CF, seval]
 refine ⟨fun i hi => ?_, fun i hi => ?_⟩
 ·rw [Yg _ _ _ _ hi]
  by_cases h : i < l.length
  ·rw [if_pos h, if_pos h]; simp only [LY, seval]
  ·rw [if_neg h, if_neg h, if_pos Aa]; simp only [LY, seval]
 ·rw [VH _ _ _ _ hi]
  by_cases h : i < l.length
  ·rw [if_pos h, if_pos h]; simp only [LY, seval]
  ·rw [if_neg h, if_neg h, if_pos Aa]; simp only [LY, seval]
theorem Kr (okB : OkB M) (ok : OkR M) (p : Pr) (met : Bool) (l : List (Dg × Pr)) (hl : l.length < 4294967296) (hk : ¬ Gq l (CE p) = l.length) :
 Af M 219 [.ptr 0 [], At p] (GT l met) 3 (Q3 (dg (CE p)) (GT (P4 l p) (Xk l met p)) 3) := by
 have hS : Af M 311 [.lst 1 64 (fun j => B (p.at j))] [] 0 (Q3 (dg (CE p)) [] 0) := CC okB p.at
 rw [P4, Xk]
 generalize CE p = D at *
 have hI := IW ok D l.length (rh l) met hl (Gq l D) (Dy l D) (Ip l D) (F1 l D)
 have hle := Dy l D
 have hhi := (F1 l D).resolve_left hk
 generalize Gq l D = k at *
 simp only [if_neg hk] at hI
 have h0 : ((k : Int) < 0) = False := eq_false Aa
 refine Ac ok.k219 rfl fun x hx => ?_
 refine es 2000 ?_; (simp only [QT, TG, GT, BJ, BA, seval])
 have zz := @At.eq_1; refine CI (hS) ?_
 (simp only [dg, BA, seval])
 have zz := Ft; refine JO [0, 1, 2] [0, 1] (hI) ?_
 by_cases hp : rp l k = p
 all_goals
  (simp only [Ft, hk, h0, hp, BA, seval])
  repeat refine sd ?_
 ·refine Aq.mk hx [0, 1, 2] [] (dg D) (GT (l.set k (D, p)) met) 3 Ak (by simp only [Fk, dg, seval]) (by simp only [IT, dg, seval]) ?_ ⟨rfl, rfl, rfl⟩
  simp only [GT, Ft, List.length_set, Na _ _ _ _ hhi, CF, seval]
  intro i hi
  rw [Ng _ _ _ _ _ hi]
  by_cases h : i = k
  ·rw [if_pos h, h, hp]
  ·rw [if_neg h]
 ·refine Aq.mk hx [0, 1, 2] [] (dg D) (GT (l.set k (D, p)) true) 3 Ak (by simp only [Fk, dg, seval]) (by simp only [IT, dg, seval]) ?_ ⟨rfl, rfl, rfl⟩
  simp only [GT, Ft, List.length_set, Na _ _ _ _ hhi, CF, seval]
  intro i hi
  rw [Ng _ _ _ _ _ hi]
  by_cases h : i = k
  ·rw [if_pos h, if_pos h]
   simp only [C6]
  ·rw [if_neg h, if_neg h]
   simp only [C6]
noncomputable def BL : Nat → List (Dg × Pr) × Bool
 | 0 => ([], false)
 | n + 1 => if Gq (BL n).1 (CE (CM (Am n) (Am n))) = (BL n).1.length then ((BL n).1 ++ [(CE (CM (Am n) (Am n)), CM (Am n) (Am n))], (BL n).2) else (P4 (BL n).1 (CM (Am n) (Am n)), Xk (BL n).1 (BL n).2 (CM (Am n) (Am n)))
theorem Ku : ∀ n, (BL n).1.length ≤ n
 | 0 => Nat.le_refl 0
 | n + 1 => by
   have h := Ku n
   rw [BL]; split
   ·simp only [Lc4]; omega
   ·simp only [P4, List.length_set]; omega
def YF : V := .ar 32 17 (fun j => dg (Am j))
noncomputable def rnH (n : Nat) : Hp := if n = 0 then [(0, BJ .nils .nils false), (1, YF)] else [(0, BJ (.sl 2 [] 0 (BL n).1.length 32) (.sl 3 [] 0 (BL n).1.length 64) (BL n).2), (1, YF), (2, .ar 32 (BL n).1.length fun i => dg (rh (BL n).1 i)), (3, .ar 64 (BL n).1.length fun i => At (rp (BL n).1 i))]
theorem Um (okB : OkB M) (ok : OkR M) : Af M 218 [] [] 0 (Q3 (.ptr 0 []) (GT (BL 16).1 (BL 16).2) 3) := by
 refine Ac ok.k218 rfl fun x hx => ?_
 refine es 2000 ?_; (simp only [Ahk, Akw, LZ, seval])
 have zz := @dg.eq_1; refine El (R4 okB) ?_
 (simp only [BA, seval])
 refine Ag (σ := Nat) (fun n => n ≤ 16) (fun n => fr 23 [(1, .ptr 0 []), (2, .sl 1 [] 0 17 32), (3, .int .i64 n)]) rnH (fun n => if n = 0 then 2 else 4) (fun n => 16 - n) 0 Aa ?_ ?_
 ·rw [rnH, if_pos rfl]
  refine Aj.fr [32, 64] [] hx Ax Ak ?_ ?_
  ·simp only [LY, seval]
  ·simp only [Ft, YF, LY, seval]
 ·intro n hn
  refine es 2000 ?_
  by_cases h16 : n = 16
  ·subst h16
   rw [rnH, if_neg Ak, if_neg Ak]
   (simp only [BJ, YF, LZ, seval])
   refine ID hx [0, 2, 3] (.ptr 0 []) (GT (BL 16).1 (BL 16).2) 3 ?_
   simp only [GT, Ft, CF, seval]
  ·have d0 : ((n : Int) < 16) = True := eq_true Aa
   have d1 : ((n : Int) < 17) = True := eq_true Aa
   have d2 : (0 ≤ (n : Int)) = True := eq_true Aa
   have w0 : IntKind.i64.wrap ((n : Int) + 1) = ((n + 1 : Nat) : Int) := A9
   have hlen := Ku n
   have e0 : ¬ n + 1 = 0 := Aa
   have wi1 : IntKind.i64.wrap 1 = 1 := rfl
   by_cases hz : n = 0
   ·subst hz
    rw [rnH, if_pos rfl, if_pos rfl]
    have hA := Rh okB ok (CM (Am 0) (Am 0)) false
    (simp only [BJ, YF, LZ, seval])
    have zz := @C6; refine Gy (F3 ok (Am 0) (Am 0)) ?_
    (simp only [BA, seval])
    have zz := aq3 Ft @GT.eq_1 @C6; refine Pd [0] (hA) ?_
    (simp only [Ft, GT, BA, wi1, seval])
    refine ⟨0 + 1, by omega, by omega, ?_⟩
    have e1 : BL (0 + 1) = ([(CE (CM (Am 0) (Am 0)), CM (Am 0) (Am 0))], false) := rfl
    rw [rnH, if_neg e0, if_neg e0, e1]
    refine Aj.fr [0, 1, 370, 371] [] hx Ax Ak ?_ ?_
    ·simp only [LY, seval]
    ·simp only [Ft, YF, CF, seval]
   ·rw [rnH, if_neg hz, if_neg hz]
    by_cases hk : Gq (BL n).1 (CE (CM (Am n) (Am n))) = (BL n).1.length
    ·have hA := JW okB ok (CM (Am n) (Am n)) (BL n).2 (BL n).1 Aa hk
     (simp only [BJ, YF, d0, d1, d2, LZ, seval])
     repeat refine sd ?_
     have zz := @C6; refine Gy (F3 ok (Am n) (Am n)) ?_
     (simp only [BA, seval])
     have zz := aq4 Ft @GT.eq_1 @RX.eq_1 @C6; refine Pd [0, 2, 3] (hA) ?_
     (simp only [Ft, RX, BA, w0, seval])
     refine ⟨n + 1, by omega, by omega, ?_⟩
     rw [rnH, if_neg e0, if_neg e0, BL, if_pos hk]
     refine Aj.fr [0, 1, 372, 373] [] hx Ax Ak ?_ ?_
     ·simp only [LY, seval]
     ·simp only [Ft, YF, CF, seval]
    ·have hA := Kr okB ok (CM (Am n) (Am n)) (BL n).2 (BL n).1 Aa hk
     (simp only [BJ, YF, d0, d1, d2, LZ, seval])
     repeat refine sd ?_
     have zz := @C6; refine Gy (F3 ok (Am n) (Am n)) ?_
     (simp only [BA, seval])
     have zz := aq3 Ft @GT.eq_1 @C6; refine Pd [0, 2, 3] (hA) ?_
     (simp only [Ft, GT, BA, w0, seval])
     refine ⟨n + 1, by omega, by omega, ?_⟩
     rw [rnH, if_neg e0, if_neg e0, BL, if_neg hk]
     refine Aj.fr [0, 1, 2, 3] [] hx Ax Ak ?_ ?_
     ·simp only [LY, seval]
     ·simp only [Ft, YF, CF, seval]
def RO (l : List (Dg × Pr)) (met : Bool) : Hp := [(5, BJ (.sl 6 [] 0 l.length 32) (.sl 7 [] 0 l.length 64) met), (6, .ar 32 l.length fun i => dg (rh l i)), (7, .ar 64 l.length fun i => At (rp l i))]
theorem NV (okA : OkM M) (okS : OkS M) (okB : OkB M) (ok : OkR M) :
 Af M 73 [.nils] [] 0 (Q3 (Ao (.ptr 0 []) (.ptr 5 [])) (AF (FK 16) .nils [] ++ RO (BL 16).1 (BL 16).2) 8) := by
 refine Ac ok.k73 rfl fun x hx => ?_
 refine es 2000 ?_; (simp only [f73, c73, LZ, seval])
 have zz := aq4 @AF.eq_1 Nw @C6 @BV; refine El (PC okA okS) ?_
 (simp only [AF, Nw, AR, BA, seval])
 have zz := aq3 @GT.eq_1 Ft @C6; refine El (Um okB ok) ?_
 (simp only [AF, Nw, AR, GT, Ft, BA, seval])
 refine AZ ?_
 refine es 2000 ?_
 (simp only [LZ, seval])
 refine ID hx [32, 33, 34, 35, 36, 48, 49, 50] (Ao (.ptr 0 []) (.ptr 5 [])) (AF (FK 16) .nils [] ++ RO (BL 16).1 (BL 16).2) 8 ?_
 all_goals simp only [G0, RO, BJ, Ik, Ao, IY, LM, seval]
variable {M : Seat}
def BQ (q : Nat) (hs ps : V) (met : Bool) : V := .st 4 (.fcons 0 hs (.fcons 1 ps (.fcons 2 (.sl 3 [] 0 q 32) (.fcons 3 (.bool met) .fnil))))
def Aar (q : Nat) (hs ps : V) (met : Bool) : V := .st 4 (.fcons 0 hs (.fcons 1 ps (.fcons 2 (.sl 4 [] 0 q 32) (.fcons 3 (.bool met) .fnil))))
def Cu (q : Nat) (qs : Nat → Dg) (l : List (Dg × Pr)) (met : Bool) : Hp := [(0, BQ q (.sl 1 [] 0 l.length 32) (.sl 2 [] 0 l.length 64) met), (1, .ar 32 l.length fun i => dg (rh l i)), (2, .ar 64 l.length fun i => At (rp l i)), (3, .ar 32 q fun i => dg (qs i))]
def Z2 := (aq4 @GT.eq_1 @Cu.eq_1 @BQ.eq_1 @BJ.eq_1)
def Jx (q : Nat) (qs : Nat → Dg) (l : List (Dg × Pr)) (met : Bool) : Hp := [(0, BQ q (.sl 4 [] 0 l.length 32) (.sl 5 [] 0 l.length 64) met), (4, .ar 32 l.length fun i => dg (rh l i)), (5, .ar 64 l.length fun i => At (rp l i)), (3, .ar 32 q fun i => dg (qs i))]
theorem Ee (q : Nat) (ok : OkR M) (h : Dg) (n : Nat) (hs : Nat → Dg) (met : Bool) (hn : n < 4294967296) (i0 : Nat) (hi0 : i0 ≤ n) (hlow : ∀ j, j < i0 → ¬ hs j = h) (hend : i0 = n ∨ hs i0 = h) :
 Af M 330 [.ptr 0 [], dg h] [(0, BQ q (.sl 1 [] 0 n 32) (.sl 2 [] 0 n 64) met), (1, .ar 32 n fun i => dg (hs i))] 4 (Q3 (.int .i64 (if i0 = n then -1 else (i0 : Int))) [(0, BQ q (.sl 1 [] 0 n 32) (.sl 2 [] 0 n 64) met), (1, .ar 32 n fun i => dg (hs i))] 4) := by
 refine Ac ok.k330 rfl fun x hx => ?_
 refine es 2000 ?_; (simp only [Wj, Aah, BQ, LZ, seval])
 refine Ag (σ := Nat) (fun i => i ≤ i0) (fun i => fr 25 [(0, .ptr 0 []), (3, .ptr 4 []), (5, .int .i64 i)])
  (fun i => [(0, BQ q (.sl 1 [] 0 n 32) (.sl 2 [] 0 n 64) met), (1, .ar 32 n fun i => dg (hs i)), (4, dg h)]) (fun _ => 5) (fun i => i0 - i) 0 Aa ?_ ?_
 ·refine Aj.fr [0, 1, 2, 3, 4] [] hx Ax Ak ?_ ?_
  ·simp only [LY, seval]
  ·simp only [BQ, dg, LY, seval]
 ·intro i hi
  refine es 2000 ?_
  by_cases hin : i = n
  ·subst hin
   have e0 : i0 = i := Aa
   subst e0
   have d0 : ((i0 : Int) < (i0 : Int)) = False := eq_false Aa
   rw [if_pos rfl]
   (simp only [BQ, d0, LZ, seval])
   have zz := aq2 @BQ.eq_1 @dg.eq_1; exact Bg hx [0, 1, 2, 3] ⟨rfl, rfl, rfl⟩
  ·have d0 : ((i : Int) < (n : Int)) = True := eq_true Aa
   have w0 : IntKind.i64.wrap ((i : Int) + 1) = ((i + 1 : Nat) : Int) := A9
   by_cases hf : hs i = h
   ·have e0 : i = i0 := by
     rcases Nat.lt_or_ge i i0 with h1 | h1
     ·exact absurd hf (hlow i h1)
     ·omega
    subst e0
    rw [if_neg hin]
    (simp only [BQ, d0, hf, LZ, seval])
    repeat refine sd ?_
    have zz := aq2 @BQ.eq_1 @dg.eq_1; exact Bg hx [0, 1, 2, 3] ⟨rfl, rfl, rfl⟩
   ·have hlt : i < i0 := by
     rcases Nat.lt_or_ge i i0 with h1 | h1
     ·exact h1
     ·rcases hend with h2 | h2
      ·omega
      ·exact absurd (by rw [show i = i0 by omega]; exact h2) hf
    (simp only [BQ, d0, w0, hf, LZ, seval])
    repeat refine sd ?_
    refine ⟨i + 1, by omega, by omega, ?_⟩
    refine Aj.fr [0, 1, 2, 3, 4] [] hx Ax Ak ?_ ?_
    ·simp only [LY, seval]
    ·simp only [BQ, dg, LY, seval]
theorem PO (q : Nat) (qs : Nat → Dg) (okB : OkB M) (ok : OkR M) (p : Pr) (met : Bool) (l : List (Dg × Pr)) (hl : l.length < 4294967296) (hk : Gq l (CE p) = l.length) :
 Af M 219 [.ptr 0 [], At p] (Cu q qs l met) 4 (Q3 (dg (CE p)) (Jx q qs (l ++ [(CE p, p)]) met) 6) := by
 have hS : Af M 311 [.lst 1 64 (fun j => B (p.at j))] [] 0 (Q3 (dg (CE p)) [] 0) := CC okB p.at
 generalize CE p = D at *
 have hI := Ee q ok D l.length (rh l) met hl (Gq l D) (Dy l D) (Ip l D) (F1 l D)
 simp only [if_pos hk] at hI
 refine Ac ok.k219 rfl fun x hx => ?_
 refine es 2000 ?_; (simp only [QT, TG, At, Cu, BQ, LZ, seval])
 refine Ah (hS) ?_
 (simp only [dg, LZ, seval])
 have zz := aq2 @BQ.eq_1 @dg.eq_1; refine JO [0, 1, 2, 3] [0, 1] (hI) ?_
 (simp only [BQ, Fq, LZ, seval])
 repeat refine sd ?_
 refine Aq.mk hx [0, 1, 2, 3, 468, 820] [] (dg D) (Jx q qs (l ++ [(D, p)]) met) 6 Ak (by simp only [Fk, dg, seval]) (by simp only [IT, dg, seval]) ?_ ⟨rfl, rfl, rfl⟩
 simp only [Jx, BQ, Fq, Lc4, Nat.zero_add, CF, seval]
 refine ⟨fun i hi => ?_, fun i hi => ?_⟩
 ·rw [Yg _ _ _ _ hi]
  by_cases h : i < l.length
  ·rw [if_pos h, if_pos h]; simp only [LY, seval]
  ·rw [if_neg h, if_neg h, if_pos Aa]; simp only [LY, seval]
 ·rw [VH _ _ _ _ hi]
  by_cases h : i < l.length
  ·rw [if_pos h, if_pos h]; simp only [LY, seval]
  ·rw [if_neg h, if_neg h, if_pos Aa]; simp only [LY, seval]
theorem PV (q : Nat) (qs : Nat → Dg) (okB : OkB M) (ok : OkR M) (p : Pr) (met : Bool) (l : List (Dg × Pr)) (hl : l.length < 4294967296) (hk : ¬ Gq l (CE p) = l.length) :
 Af M 219 [.ptr 0 [], At p] (Cu q qs l met) 4 (Q3 (dg (CE p)) (Cu q qs (P4 l p) (Xk l met p)) 4) := by
 have hS : Af M 311 [.lst 1 64 (fun j => B (p.at j))] [] 0 (Q3 (dg (CE p)) [] 0) := CC okB p.at
 rw [P4, Xk]
 generalize CE p = D at *
 have hI := Ee q ok D l.length (rh l) met hl (Gq l D) (Dy l D) (Ip l D) (F1 l D)
 have hle := Dy l D
 have hhi := (F1 l D).resolve_left hk
 generalize Gq l D = k at *
 simp only [if_neg hk] at hI
 have h0 : ((k : Int) < 0) = False := eq_false Aa
 refine Ac ok.k219 rfl fun x hx => ?_
 refine es 2000 ?_; (simp only [QT, TG, Cu, BQ, BA, seval])
 have zz := @At.eq_1; refine CI (hS) ?_
 (simp only [dg, BA, seval])
 have zz := aq2 @BQ.eq_1 @dg.eq_1; refine JO [0, 1, 2, 3] [0, 1] (hI) ?_
 by_cases hp : rp l k = p
 all_goals
  (simp only [BQ, dg, hk, h0, hp, BA, seval])
  repeat refine sd ?_
 ·refine Aq.mk hx [0, 1, 2, 3] [] (dg D) (Cu q qs (l.set k (D, p)) met) 4 Ak (by simp only [Fk, dg, seval]) (by simp only [IT, dg, seval]) ?_ ⟨rfl, rfl, rfl⟩
  simp only [Cu, BQ, dg, List.length_set, Na _ _ _ _ hhi, CF, seval]
  intro i hi
  rw [Ng _ _ _ _ _ hi]
  by_cases h : i = k
  ·rw [if_pos h, h, hp]
  ·rw [if_neg h]
 ·refine Aq.mk hx [0, 1, 2, 3] [] (dg D) (Cu q qs (l.set k (D, p)) true) 4 Ak (by simp only [Fk, dg, seval]) (by simp only [IT, dg, seval]) ?_ ⟨rfl, rfl, rfl⟩
  simp only [Cu, BQ, dg, List.length_set, Na _ _ _ _ hhi, CF, seval]
  intro i hi
  rw [Ng _ _ _ _ _ hi]
  by_cases h : i = k
  ·rw [if_pos h, if_pos h]
   simp only [C6]
  ·rw [if_neg h, if_neg h]
   simp only [C6]
def Ol (l : List (Dg × Pr)) (d : Dg) : V := Ao (At (if Gq l d = l.length then Pr.zero else rp l (Gq l d))) (.int .i64 (if Gq l d = l.length then 14 else 0))
def Ov (q : Nat) (qs : Nat → Dg) (l : List (Dg × Pr)) (met : Bool) : Hp := [(0, Aar q (.sl 1 [] 0 l.length 32) (.sl 2 [] 0 l.length 64) met), (1, .ar 32 l.length fun i => dg (rh l i)), (2, .ar 64 l.length fun i => At (rp l i)), (4, .ar 32 q fun i => dg (qs i))]
def Vm := (aq4 @Fq @Z2 @Ov.eq_1 @Aar.eq_1)
structure OkRG (M : Seat) : Prop where
 r : OkR M
 k345 : Al M 345 Aaw = true
theorem R1 (ok : OkRG M) (d : Dg) (met : Bool) (l : List (Dg × Pr)) (hl : l.length < 4294967296) :
 Af M 345 [.ptr 0 [], dg d] (GT l met) 3 (Q3 (Ol l d) (Cu 1 (fun _ => d) l met) 4) := by
 have hI := Ee 1 ok.r d l.length (rh l) met hl (Gq l d) (Dy l d) (Ip l d) (F1 l d)
 have hle := Dy l d
 unfold Ol
 generalize Gq l d = k at *
 by_cases hk : k = l.length
 all_goals
  simp only [hk, CD] at hI
  simp only [hk, CD]
  have h0 : ((k : Int) < 0) = False := eq_false Aa
  have hq : k = l.length ∨ k < l.length := Aa
  refine Ac ok.k345 rfl fun x hx => ?_
  refine es 2000 ?_; (simp only [Aaw, Af3, GT, BJ, BA, seval])
  refine AZ ?_
  refine es 2000 ?_
  (simp only [BA, seval])
  have zz := aq2 @BQ.eq_1 Ft; refine JO [0, 1, 2, 499] [0, 1] (hI) ?_
  (simp only [BQ, BJ, Fq, BA, hk, h0, seval])
  repeat refine sd ?_
 ·refine Aq.mk hx [0, 1, 2, 499] [] (Ao (At Pr.zero) (.int .i64 14)) (Cu 1 (fun _ => d) l met) 4 Ak (by simp only [Fk, Fq, seval]) (by simp only [LV, OS, Cb, IY, seval, LY]) ?_ ⟨rfl, rfl, rfl⟩
  all_goals simp only [Cu, BQ, OS, Ao, IY, LM, CF, seval]
  intro i hi
  obtain rfl : i = 0 := Aa
  simp only [if_true, LY, seval]
 ·refine Aq.mk hx [0, 1, 2, 499] [] (Ao (At (rp l k)) (.int .i64 0)) (Cu 1 (fun _ => d) l met) 4 Ak (by simp only [Fk, Fq, seval]) (by simp only [LV, OS, Cb, IY, seval, LY]) ?_ ⟨rfl, rfl, rfl⟩
  all_goals simp only [Cu, BQ, OS, Ao, IY, LM, CF, seval]
  intro i hi
  obtain rfl : i = 0 := Aa
  simp only [if_true, LY, seval]
def Zj (qs : Nat → Dg) (d : Dg) : Nat → Bool
 | 0 => false
 | i + 1 => Zj qs d i || decide (qs i = d)
theorem RI (ok : OkRG M) (q : Nat) (hq' : q < 4294967296) (qs : Nat → Dg) (d : Dg) (met : Bool) (l : List (Dg × Pr)) (hl : l.length < 4294967296) :
 Af M 345 [.ptr 0 [], dg d] (Cu q qs l met) 4 (Q3 (Ol l d) (if Zj qs d q = true then Cu q qs l met else Ov (q + 1) (fun i => if i < q then qs i else d) l met) (if Zj qs d q = true then 4 else 5)) := by
 have hI := fun q => Ee q ok.r d l.length (rh l) met hl (Gq l d) (Dy l d) (Ip l d) (F1 l d)
 have hle := Dy l d
 unfold Ol
 generalize Gq l d = k at *
 refine Ac ok.k345 rfl fun x hx => ?_
 refine es 2000 ?_; (simp only [Aaw, Af3, Cu, BQ, BA, seval])
 refine Ag (σ := Nat) (fun i => i ≤ q) (fun i => fr 55 [(0, .ptr 0 []), (3, .ptr 4 []), (4, .ptr 5 []), (5, .int .i64 0), (6, .bool (Zj qs d i)), (7, .int .i64 i)])
  (fun i => [(0, BQ q (.sl 1 [] 0 l.length 32) (.sl 2 [] 0 l.length 64) met), (1, .ar 32 l.length fun i => dg (rh l i)), (2, .ar 64 l.length fun i => At (rp l i)), (3, .ar 32 q fun i => dg (qs i)), (4, dg d), (5, At Pr.zero)]) (fun _ => 6) (fun i => q - i) 0 Aa ?_ ?_
 ·refine Aj.fr [0, 1, 2, 3, 4, 20] [] hx Ax Ak ?_ ?_
  ·simp only [Zj, LY, seval]
  ·simp only [BQ, OS, LM, LY, seval]
 ·intro i hi
  refine es 2000 ?_
  by_cases hin : i = q
  ·subst hin
   have d0 : ((i : Int) < (i : Int)) = False := eq_false Aa
   by_cases hf : Zj qs d i = true <;> by_cases hk : k = l.length
   all_goals
    simp only [hk, CD] at hI
    have h0 : ((k : Int) < 0) = False := eq_false Aa
    (simp only [BQ, d0, hf, BA, seval])
    repeat refine sd ?_
    (first | ((have zz := aq2 @BQ.eq_1 @dg.eq_1; refine JO [0, 1, 2, 3] [0, 1] (hI i) ?_)) | ((have zz := aq2 @BQ.eq_1 @dg.eq_1; refine JO [0, 1, 2, 422] [0, 1] (hI (i + 1)) ?_)))
    (simp only [BQ, Fq, hk, h0, BA, seval])
    repeat refine sd ?_
   ·refine Aq.mk hx [0, 1, 2, 3] [] (Ao (At Pr.zero) (.int .i64 14)) (Cu i qs l met) 4 Ak (by simp only [Fk, Fq, seval]) (by simp only [LV, OS, Cb, IY, seval, LY]) ?_ ⟨rfl, rfl, rfl⟩
    all_goals simp only [hk, CD, Cu, BQ, OS, Ao, IY, LM, CF, seval]
   ·refine Aq.mk hx [0, 1, 2, 3] [] (Ao (At (rp l k)) (.int .i64 0)) (Cu i qs l met) 4 Ak (by simp only [Fk, Fq, seval]) (by simp only [LV, OS, Cb, IY, seval, LY]) ?_ ⟨rfl, rfl, rfl⟩
    all_goals simp only [hk, CD, Cu, BQ, OS, Ao, IY, LM, CF, seval]
   ·refine Aq.mk hx [0, 1, 2, 3, 422] [] (Ao (At Pr.zero) (.int .i64 14)) (Ov (i + 1) (fun j => if j < i then qs j else d) l met) 5 Ak (by simp only [Fk, Fq, seval]) (by simp only [LV, OS, Cb, IY, seval, LY]) ?_ ⟨rfl, rfl, rfl⟩
    all_goals simp only [hk, CD, Ov, Aar, OS, Ao, IY, LM, CF, seval]
    intro j hj
    by_cases h : j < i
    ·simp only [if_pos h, LY, seval]
    ·simp only [if_neg h, if_pos (show j - i = 0 by omega), LY, seval]
   ·refine Aq.mk hx [0, 1, 2, 3, 422] [] (Ao (At (rp l k)) (.int .i64 0)) (Ov (i + 1) (fun j => if j < i then qs j else d) l met) 5 Ak (by simp only [Fk, Fq, seval]) (by simp only [LV, OS, Cb, IY, seval, LY]) ?_ ⟨rfl, rfl, rfl⟩
    all_goals simp only [hk, CD, Ov, Aar, OS, Ao, IY, LM, CF, seval]
    intro j hj
    by_cases h : j < i
    ·simp only [if_pos h, LY, seval]
    ·simp only [if_neg h, if_pos (show j - i = 0 by omega), LY, seval]
  ·have d0 : ((i : Int) < (q : Int)) = True := eq_true Aa
   have w0 : IntKind.i64.wrap ((i : Int) + 1) = ((i + 1 : Nat) : Int) := A9
   cases hf : Zj qs d i <;> by_cases he : qs i = d
   all_goals
    (simp only [BQ, d0, w0, he, BA, seval])
    repeat refine sd ?_
    refine ⟨i + 1, by omega, by omega, ?_⟩
    refine Aj.fr [0, 1, 2, 3, 4, 5] [] hx Ax Ak ?_ ?_
    ·simp only [Zj, hf, he, decide_true, decide_false, Bool.or_true, Bool.or_false, Bool.true_or, LY, seval]
    ·simp only [BQ, Fq, LM, LY, seval]
end Mv
