/- A part. -/
import Derived.Test.YtncipgmjhaiagaaGreatDoorGZ
set_option linter.all false
set_option maxRecDepth 20000
set_option maxHeartbeats 4000000
namespace Mv
open Go
def c56:LC:=(sr [aB 4 32,
 mI 5 0] (sr [mt 7 0,mt 8 1,
  lN 9 0 8,kl 10 203 [(.t 7),(.t 9)],mt 6 10] (.seq (sr [mt 11 6,aI 12 .neq 11 0] (.cond (.t 12) (sr [A1 13 (.build (.ar 32 (.int .u8)) []),mt 14 6,sb 32 4 13,mt 5 14] .ret) .skip)) (sr [mt 15 1,mt 16 0,kl 17 205 [],kl 18 204 [(.t 15),(cI 0),(.t 16),(.t 17)],sb 32 4 18,
  mI 5 0] .ret))))
def f56:LF:=⟨c56,2,0,19,[.cell 4 true 32,.tmp 5]⟩
def At4:LC:=(sr [mI 4 0] (.seq (sr [mt 5 0,aI 6 .lss 5 0,mt 7 6,mg 8 7 false 0,A2 9 7 false (.ari .gtr (.t 8) (cI 16)),
  pKt 10 7 9] (.cond (.t 10) (sr [mI 4 2] .ret) .skip)) (.seq (sr [mt 11 1,mt 12 0,
  cVv 13 .u64 12,
  aJ 14 .shl 1 13,ak 15 .gtr 11 14] (.cond (.t 15) (sr [mI 4 5] .ret) .skip)) (sr [mI 4 0] .ret))))
def At3:LF:=⟨At4,2,0,16,[.tmp 4]⟩
def Atb:LC:=(sr [aB 8 32] (.seq (sr [mt 9 1,mt 10 0,
  lN 11 0 10,ak 12 .geq 9 11] (.cond (.t 12) (sr [mt 13 3,mt 14 2,ia 15 32 13 14,la 16 32 15,sb 32 8 16] .ret) .skip)) (.seq (sr [mt 17 2,aI 18 .eql 17 0] (.cond (.t 18) (sr [mt 19 0,mt 20 1,ia 21 32 19 20,la 22 32 21,sb 32 8 22] .ret) .skip)) (sr [mt 23 0,mt 24 1,mt 25 2,aI 26 .sub 25 1,mt 27 3,kl 28 204 [(.t 23),(.t 24),(.t 26),(.t 27)],mt 29 0,mt 30 1,mt 31 2,aI 32 .sub 31 1,
  cVv 33 .u64 32,
  aJ 34 .shl 1 33,ak 35 .add 30 34,mt 36 2,aI 37 .sub 36 1,mt 38 3,kl 39 204 [(.t 29),(.t 35),(.t 37),(.t 38)],kl 40 206 [(.t 28),(.t 39)],sb 32 8 40] .ret))))
def Atd:LF:=⟨Atb,4,0,41,[.cell 8 true 32]⟩
variable {M:Seat}
structure OkW2 (M:Seat):Prop where
 b:OkB M
 k56:Al M 56 f56=true
 k60:Al M 60 f60=true
 k65:Al M 65 f65=true
 k66:Al M 66 f66=true
 k203:Al M 203 At3=true
 k204:Al M 204 Atd=true
 k209:Al M 209 Aty=true
def hdR (r:V) (pc:BitVec 64) (hl:Bool) (xt:BitVec 64):V :=
 .st 4 (.fcons 0 r (.fcons 1 (W pc) (.fcons 2 (.bool hl) (.fcons 3 (W xt) .fnil))))
theorem Asz (ok:OkW2 M) (d n:Nat) (hd:d≤16) (hn:n≤2 ^ d) :
 Af M 203 [.int .i64 d,.int .i64 n] [] 0 (Q3 (.int .i64 0) [] 0):=by
 refine Ac ok.k203 rfl fun x hx=>?_
 have d1:decide ((d:Int) < 0)=false:=decide_eq_false Aa
 have d2:decide ((16:Int) < d)=false:=decide_eq_false Aa
 have w1:IntKind.u64.wrap (d:Int)=d:=Cy Aa
 have d3:decide (((2 ^ d:Nat):Int) < n)=false:=decide_eq_false Aa
 refine es 30 ?_
 simp only [At3,At4,d1,d2,d3,w1,Xg hd,Dx,↓Ab,A5,Ad,Nat.reduceLT,Int.reduceLE,Int.reduceLT,Nat.reducePow,Nat.reduceAnd,Nat.reduceOr,Nat.reduceShiftRight,Int.reduceToNat,reduceCtorEq,Nat.reduceAdd,Nat.reduceMul,Nat.reduceSub,Nat.reduceBEq,Nat.reduceEqDiff,Nat.reduceLeDiff,Nat.reduceBneDiff,Nat.reduceBNe,↓reduceIte]
 refine ⟨by omega,?_⟩
 refine Aq.mk hx [] [] (.int .i64 0) [] 0 Ak ?_ ?_ trivial ⟨rfl,rfl,rfl⟩
 ·simp only [Lc,↓Ab,ex,Ro,AC,A5,Ad,Nat.reduceLT,Int.reduceLE,Int.reduceLT,Nat.reducePow,Nat.reduceAnd,Nat.reduceOr,Nat.reduceShiftRight,Int.reduceToNat,reduceCtorEq,Nat.reduceAdd,Nat.reduceMul,Nat.reduceSub,Nat.reduceBEq,Nat.reduceEqDiff]
 ·simp only [Lb,↓Ab,ex,Ro,AC,A5,Ad,Nat.reduceLT,Int.reduceLE,Int.reduceLT,Nat.reducePow,Nat.reduceAnd,Nat.reduceOr,Nat.reduceShiftRight,Int.reduceToNat,reduceCtorEq,Nat.reduceAdd,Nat.reduceMul,Nat.reduceSub,Nat.reduceBEq,Nat.reduceEqDiff,Nat.reduceLeDiff]
def lvR (l:List Dg) (v:V):Prop:=v=row l ∨ (v = .nils∧l=[])
theorem Ar5 (l:List Dg):∀ h q,l.length≤q * 2 ^ h→Jw l h q=Am h
 | 0,q,hq=>DC (by show l.length≤q;simpa using hq) _
 | h + 1, q, hq => by
   have e:q * 2 ^ (h + 1)=2 * q * 2 ^ h:=by rw [Nat.pow_succ];ac_rfl
   have e2:(2 * q + 1) * 2 ^ h=2 * q * 2 ^ h + 2 ^ h:=by rw [Nat.add_mul,Nat.one_mul]
   rw [Uz,Ar5 l h (2 * q) (by rw [← e];exact hq),Ar5 l h (2 * q + 1) (by rw [e2];exact Nat.le_trans (by rw [← e];exact hq) (Nat.le_add_right _ _))];rfl
abbrev ltZ:V:=.lst 32 17 (fun j=>dg (Am j))
theorem Asw (ok:OkW2 M) (l:List Dg) (lv:V) (hlv:lvR l lv) (hl:l.length≤65536):∀ (h q:Nat),h≤16→q * 2 ^ h + 2 ^ h≤65536 →
 Af M 204 [lv,.int .i64 (q * 2 ^ h:Nat),.int .i64 h,ltZ] [] 0 (Q3 (dg (Jw l h q)) [] 0):=by
 intro h
 induction h with
 | zero =>
   intro q _ hq
   refine Ac ok.k204 rfl fun x hx=>?_
   have e:q * 2 ^ 0=q:=Bu
   by_cases hout:l.length≤q
   ·rw [Ar5 l 0 q (by simpa using hout),e]
    have d1:decide (((l.length:Nat):Int)≤(q:Int))=true:=decide_eq_true Aa
    have d3:decide ((0:Int)≤(q:Int))=true:=decide_eq_true Aa
    rcases hlv with h1 | ⟨h1,h2⟩
    all_goals
     subst h1
     refine es 30 ?_
     simp only [Atd,Atb,row,d1,d3,Dx,↓Ab,A5,Ad,Nat.reduceLT,Int.reduceLE,Int.reduceLT,Nat.reducePow,Nat.reduceAnd,Nat.reduceOr,Nat.reduceShiftRight,Int.reduceToNat,reduceCtorEq,Nat.reduceAdd,Nat.reduceMul,Nat.reduceSub,Nat.reduceBEq,Nat.reduceEqDiff,Nat.reduceLeDiff,Nat.reduceBneDiff,Nat.reduceBNe,↓reduceIte]
     refine Aq.mk hx [] [] (dg (Am 0)) [] 0 Ak ?_ ?_ trivial ⟨rfl,rfl,rfl⟩
     ·simp only [Lc,↓Ab,ex,Ro,AC,A5,Ad,Nat.reduceLT,Int.reduceLE,Int.reduceLT,Nat.reducePow,Nat.reduceAnd,Nat.reduceOr,Nat.reduceShiftRight,Int.reduceToNat,reduceCtorEq,Nat.reduceAdd,Nat.reduceMul,Nat.reduceSub,Nat.reduceBEq,Nat.reduceEqDiff]
     ·simp only [Lb,↓Ab,ex,Ro,AC,A5,Ad,Nat.reduceLT,Int.reduceLE,Int.reduceLT,Nat.reducePow,Nat.reduceAnd,Nat.reduceOr,Nat.reduceShiftRight,Int.reduceToNat,reduceCtorEq,Nat.reduceAdd,Nat.reduceMul,Nat.reduceSub,Nat.reduceBEq,Nat.reduceEqDiff,Nat.reduceLeDiff]
   ·have d1:decide (((l.length:Nat):Int)≤(q:Int))=false:=decide_eq_false Aa
    have hrow:lv=row l:=by
     rcases hlv with h1 | ⟨_,h2⟩
     ·exact h1
     ·subst h2;simp at hout
    subst hrow
    rw [e]
    refine es 30 ?_
    simp only [Atd,Atb,row,d1,Dx,↓Ab,A5,Ad,Nat.reduceLT,Int.reduceLE,Int.reduceLT,Nat.reducePow,Nat.reduceAnd,Nat.reduceOr,Nat.reduceShiftRight,Int.reduceToNat,reduceCtorEq,Nat.reduceAdd,Nat.reduceMul,Nat.reduceSub,Nat.reduceBEq,Nat.reduceEqDiff,Nat.reduceLeDiff,Nat.reduceBneDiff,Nat.reduceBNe,↓reduceIte]
    refine ⟨⟨by omega,by omega⟩,?_⟩
    refine Aq.mk hx [] [] (dg (Jw l 0 q)) [] 0 Ak ?_ ?_ trivial ⟨rfl,rfl,rfl⟩
    ·simp only [Lc,↓Ab,ex,Ro,AC,A5,Ad,Nat.reduceLT,Int.reduceLE,Int.reduceLT,Nat.reducePow,Nat.reduceAnd,Nat.reduceOr,Nat.reduceShiftRight,Int.reduceToNat,reduceCtorEq,Nat.reduceAdd,Nat.reduceMul,Nat.reduceSub,Nat.reduceBEq,Nat.reduceEqDiff]
    ·simp only [Lb,↓Ab,ex,Ro,AC,A5,Ad,Nat.reduceLT,Int.reduceLE,Int.reduceLT,Nat.reducePow,Nat.reduceAnd,Nat.reduceOr,Nat.reduceShiftRight,Int.reduceToNat,reduceCtorEq,Nat.reduceAdd,Nat.reduceMul,Nat.reduceSub,Nat.reduceBEq,Nat.reduceEqDiff,Nat.reduceLeDiff]
     exact fun _ _=>rfl
 | succ h ih =>
   intro q hh hq
   refine Ac ok.k204 rfl fun x hx=>?_
   have e:q * 2 ^ (h + 1)=2 * q * 2 ^ h:=by rw [Nat.pow_succ];ac_rfl
   have e2:(2 * q + 1) * 2 ^ h=2 * q * 2 ^ h + 2 ^ h:=by rw [Nat.add_mul,Nat.one_mul]
   have e3:2 ^ (h + 1)=2 ^ h + 2 ^ h:=by rw [Nat.pow_succ];omega
   by_cases hout:l.length≤q * 2 ^ (h + 1)
   ·rw [Ar5 l (h + 1) q hout]
    have d1:decide (((l.length:Nat):Int)≤((q * 2 ^ (h + 1):Nat):Int))=true:=decide_eq_true Aa
    have d3:decide ((0:Int)≤((q * 2 ^ (h + 1):Nat):Int))=true:=decide_eq_true Aa
    rcases hlv with h1 | ⟨h1,h2⟩
    all_goals
     subst h1
     refine es 30 ?_
     simp only [Atd,Atb,row,d1,d3,Dx,↓Ab,A5,Ad,Nat.reduceLT,Int.reduceLE,Int.reduceLT,Nat.reducePow,Nat.reduceAnd,Nat.reduceOr,Nat.reduceShiftRight,Int.reduceToNat,reduceCtorEq,Nat.reduceAdd,Nat.reduceMul,Nat.reduceSub,Nat.reduceBEq,Nat.reduceEqDiff,Nat.reduceLeDiff,Nat.reduceBneDiff,Nat.reduceBNe,↓reduceIte]
     refine ⟨⟨by omega,by omega⟩,?_⟩
     refine Aq.mk hx [] [] (dg (Am (h + 1))) [] 0 Ak ?_ ?_ trivial ⟨rfl,rfl,rfl⟩
     ·simp only [Lc,↓Ab,ex,Ro,AC,A5,Ad,Nat.reduceLT,Int.reduceLE,Int.reduceLT,Nat.reducePow,Nat.reduceAnd,Nat.reduceOr,Nat.reduceShiftRight,Int.reduceToNat,reduceCtorEq,Nat.reduceAdd,Nat.reduceMul,Nat.reduceSub,Nat.reduceBEq,Nat.reduceEqDiff]
     ·simp only [Lb,↓Ab,ex,Ro,AC,A5,Ad,Nat.reduceLT,Int.reduceLE,Int.reduceLT,Nat.reducePow,Nat.reduceAnd,Nat.reduceOr,Nat.reduceShiftRight,Int.reduceToNat,reduceCtorEq,Nat.reduceAdd,Nat.reduceMul,Nat.reduceSub,Nat.reduceBEq,Nat.reduceEqDiff,Nat.reduceLeDiff]
   ·have d1:decide (((l.length:Nat):Int)≤((q * 2 ^ (h + 1):Nat):Int))=false:=decide_eq_false Aa
    have d2:decide (((h + 1:Nat):Int)=0)=false:=decide_eq_false Aa
    have hrow:lv=row l:=by
     rcases hlv with h1 | ⟨_,h2⟩
     ·exact h1
     ·subst h2;simp at hout
    have w1:IntKind.i64.wrap (((h + 1:Nat):Int) - 1)=(h:Nat):=A9
    have w2:IntKind.u64.wrap (h:Int)=h:=Cy Aa
    have w3:IntKind.i64.wrap (((q * 2 ^ (h + 1):Nat):Int) + ((2 ^ h:Nat):Int))=(((2 * q + 1) * 2 ^ h:Nat):Int):=by rw [e2,e,AI Aa];omega
    subst hrow
    refine es 30 ?_
    simp only [Atd,Atb,row,d1,d2,w1,w2,w3,Xg (show h≤16 by omega),Dx,↓Ab,A5,Ad,Nat.reduceLT,Int.reduceLE,Int.reduceLT,Nat.reducePow,Nat.reduceAnd,Nat.reduceOr,Nat.reduceShiftRight,Int.reduceToNat,reduceCtorEq,Nat.reduceAdd,Nat.reduceMul,Nat.reduceSub,Nat.reduceBEq,Nat.reduceEqDiff,Nat.reduceLeDiff,Nat.reduceBneDiff,Nat.reduceBNe,↓reduceIte]
    have ih1:=ih (2 * q) Aa Aa
    rw [← e] at ih1
    refine AB ih1 (by simp only [row,A7,Nat.reduceLT,reduceCtorEq,Nat.reduceEqDiff,Nat.reduceLeDiff,Nat.reduceBEq]) rfl ?_
    refine ⟨by omega,?_⟩
    refine AB (ih (2 * q + 1) Aa Aa) (by simp only [row,A7,Nat.reduceLT,reduceCtorEq,Nat.reduceEqDiff,Nat.reduceLeDiff,Nat.reduceBEq]) rfl ?_
    refine AB (Oe ok.b _ _) ⟨(AJ _ _ _ _ _).mpr rfl,(AJ _ _ _ _ _).mpr rfl,trivial⟩ rfl ?_
    simp only [Dx,↓Ab,A5,Ad,Nat.reduceLT,Int.reduceLE,Int.reduceLT,Nat.reducePow,Nat.reduceAnd,Nat.reduceOr,Nat.reduceShiftRight,Int.reduceToNat,reduceCtorEq,Nat.reduceAdd,Nat.reduceMul,Nat.reduceSub,Nat.reduceBEq,Nat.reduceEqDiff,Nat.reduceLeDiff,Nat.reduceBneDiff,Nat.reduceBNe,↓reduceIte]
    refine Aq.mk hx [] [] (dg (Jw l (h + 1) q)) [] 0 Ak ?_ ?_ trivial ⟨rfl,rfl,rfl⟩
    ·simp only [Lc,↓Ab,ex,Ro,AC,A5,Ad,Nat.reduceLT,Int.reduceLE,Int.reduceLT,Nat.reducePow,Nat.reduceAnd,Nat.reduceOr,Nat.reduceShiftRight,Int.reduceToNat,reduceCtorEq,Nat.reduceAdd,Nat.reduceMul,Nat.reduceSub,Nat.reduceBEq,Nat.reduceEqDiff]
    ·simp only [Uz]
     simp only [Lb,↓Ab,ex,Ro,AC,A5,Ad,Nat.reduceLT,Int.reduceLE,Int.reduceLT,Nat.reducePow,Nat.reduceAnd,Nat.reduceOr,Nat.reduceShiftRight,Int.reduceToNat,reduceCtorEq,Nat.reduceAdd,Nat.reduceMul,Nat.reduceSub,Nat.reduceBEq,Nat.reduceEqDiff,Nat.reduceLeDiff]
theorem Atf {H:Hp} {m z:List Nat} {l:List Dg} {v:V} (h:lvR l v):Bd H m z v v:=by
 rcases h with h | ⟨h,_⟩
 ·subst h;exact K9 _ _ _ _
 ·subst h;trivial
theorem Ask (ok:OkW2 M) (d:Nat) (hd:d≤16) (l:List Dg) (lv:V) (hlv:lvR l lv) (hl:l.length≤2 ^ d) :
 Af M 56 [.int .i64 d,lv] [] 0 (Q3 (Ao (dg (Jw l d 0)) (.int .i64 0)) [] 0):=by
 have hl2:l.length≤65536:=Nat.le_trans hl (Nat.pow_le_pow_right Aa hd)
 have hW:=Asz ok d l.length hd hl
 have hU:=Asw ok l lv hlv hl2 d 0 hd (by have:=Nat.pow_le_pow_right (n:=2) Aa hd;omega)
 have e:((0 * 2 ^ d:Nat):Int)=0:=Bu
 rw [e] at hU
 refine Ac ok.k56 rfl fun x hx=>?_
 have hS:∀ H m z,Bd H m z lv lv:=fun H m z=>Atf hlv
 rcases hlv with h1 | ⟨h1,h2⟩
 all_goals
  subst h1
  refine es 30 ?_
  simp only [f56,c56,row,Dx,↓Ab,A5,Ad,Nat.reduceLT,Int.reduceLE,Int.reduceLT,Nat.reducePow,Nat.reduceAnd,Nat.reduceOr,Nat.reduceShiftRight,Int.reduceToNat,reduceCtorEq,Nat.reduceAdd,Nat.reduceMul,Nat.reduceSub,Nat.reduceBEq,Nat.reduceEqDiff,Nat.reduceLeDiff,Nat.reduceBneDiff,Nat.reduceBNe,↓reduceIte]
  try simp only [h2,List.length_nil,Int.natCast_zero] at hW
  refine AB hW (by simp only [A7,Nat.reduceLT,reduceCtorEq,Nat.reduceEqDiff,Nat.reduceLeDiff,Nat.reduceBEq]) rfl ?_
  simp only [Dx,↓Ab,A5,Ad,Nat.reduceLT,Int.reduceLE,Int.reduceLT,Nat.reducePow,Nat.reduceAnd,Nat.reduceOr,Nat.reduceShiftRight,Int.reduceToNat,reduceCtorEq,Nat.reduceAdd,Nat.reduceMul,Nat.reduceSub,Nat.reduceBEq,Nat.reduceEqDiff,Nat.reduceLeDiff,Nat.reduceBneDiff,Nat.reduceBNe,↓reduceIte]
  refine B3 (R4 ok.b) False [] [] List.nodup_nil Bu rfl Bu trivial trivial ?_
  rintro r H' k' ⟨rfl,rfl,rfl⟩
  refine ⟨⟨by omega,fun h=>h.elim⟩,?_⟩
  simp only [Atu,LN,V.ren,AQ,A4,BO,D3,YE,List.append_nil,Vl,ne_eq,CD,Nat.reduceEqDiff,reduceCtorEq]
  refine GQ [176] hU ⟨hS _ _ _,rfl,rfl,by simp only [A7,Nat.reduceLT,reduceCtorEq,Nat.reduceEqDiff,Nat.reduceLeDiff,Nat.reduceBEq],trivial⟩ rfl ?_
  simp only [A4,Dx,↓Ab,A5,Ad,Nat.reduceLT,Int.reduceLE,Int.reduceLT,Nat.reducePow,Nat.reduceAnd,Nat.reduceOr,Nat.reduceShiftRight,Int.reduceToNat,reduceCtorEq,Nat.reduceAdd,Nat.reduceMul,Nat.reduceSub,Nat.reduceBEq,Nat.reduceEqDiff,Nat.reduceLeDiff,Nat.reduceBneDiff,Nat.reduceBNe,↓reduceIte,LN,V.ren,AQ,D3,YE,List.append_nil]
  refine Aq.mk hx [] [] (Ao (dg (Jw l d 0)) (.int .i64 0)) [] 0 Ak ?_ ?_ trivial ⟨rfl,rfl,rfl⟩
  ·simp only [Lc,↓Ab,ex,Ro,AC,A5,Ad,Nat.reduceLT,Int.reduceLE,Int.reduceLT,Nat.reducePow,Nat.reduceAnd,Nat.reduceOr,Nat.reduceShiftRight,Int.reduceToNat,reduceCtorEq,Nat.reduceAdd,Nat.reduceMul,Nat.reduceSub,Nat.reduceBEq,Nat.reduceEqDiff]
   rfl
  ·simp only [Lb,↓Ab,ex,Ro,AC,A5,Ad,Nat.reduceLT,Int.reduceLE,Int.reduceLT,Nat.reducePow,Nat.reduceAnd,Nat.reduceOr,Nat.reduceShiftRight,Int.reduceToNat,reduceCtorEq,Nat.reduceAdd,Nat.reduceMul,Nat.reduceSub,Nat.reduceBEq,Nat.reduceEqDiff,Nat.reduceLeDiff]
theorem Ar6 (ok:OkW2 M) (v:BitVec 64) :
 Af M 66 [W v] [] 0 (Q3 (dg (B5 v)) [] 0):=by
 refine Ac ok.k66 rfl fun x hx=>?_
 refine es 30 ?_
 simp only [f66,c66,Dx,↓Ab,A5,Ad,Nat.reduceLT,Int.reduceLE,Int.reduceLT,Nat.reducePow,Nat.reduceAnd,Nat.reduceOr,Nat.reduceShiftRight,Int.reduceToNat,reduceCtorEq,Nat.reduceAdd,Nat.reduceMul,Nat.reduceSub,Nat.reduceBEq,Nat.reduceEqDiff,Nat.reduceLeDiff,Nat.reduceBneDiff,Nat.reduceBNe,↓reduceIte]
 refine Ag (σ:=Nat) (fun i=>i≤8) (fun i=>fr 20 [(0,W v),(2,.ptr 0 []),(3,.ptr 1 []),(4,.int .i64 i)])
  (fun i=>[(0,.ar 1 32 (fun _=>B 0)),(1,.ar 1 32 (fun j=>B (if j < 24 + i then (B5 v).at j else 0)))]) (fun _=>2) (fun i=>8 - i) 0 Aa ?_ ?_
 ·refine Aj.fr [0,16] [] hx Ax Ak ?_ ?_
  ·simp only [A7,Nat.reduceLT,reduceCtorEq,Nat.reduceEqDiff,Nat.reduceLeDiff,Nat.reduceBEq]
  ·simp only [A7,Nat.reduceLT,reduceCtorEq,Nat.reduceEqDiff,Nat.reduceLeDiff,Nat.reduceBEq,B_0]
   intro j hj
   by_cases h:j < 24
   ·rw [if_pos h,B5,Dg.at_mk' _ _ hj,if_pos h]
   ·rw [if_neg h]
 ·intro i hi
  by_cases h8:i=8
  ·subst h8
   have d0:decide (((8:Nat):Int) < 8)=false:=rfl
   (refine es 30 ?_;simp only [d0,Dx,↓Ab,A5,Ad,Nat.reduceLT,Int.reduceLE,Int.reduceLT,Nat.reducePow,Nat.reduceAnd,Nat.reduceOr,Nat.reduceShiftRight,Int.reduceToNat,reduceCtorEq,Nat.reduceAdd,Nat.reduceMul,Nat.reduceSub,Nat.reduceBEq,Nat.reduceEqDiff,Nat.reduceLeDiff,Nat.reduceBneDiff,Nat.reduceBNe,↓reduceIte])
   refine Aq.mk hx [] [] (dg (B5 v)) [] 0 Ak ?_ ?_ trivial ⟨rfl,rfl,rfl⟩
   ·simp only [Lc,↓Ab,ex,Ro,AC,A5,Ad,Nat.reduceLT,Int.reduceLE,Int.reduceLT,Nat.reducePow,Nat.reduceAnd,Nat.reduceOr,Nat.reduceShiftRight,Int.reduceToNat,reduceCtorEq,Nat.reduceAdd,Nat.reduceMul,Nat.reduceSub,Nat.reduceBEq,Nat.reduceEqDiff]
   ·simp only [Lb,↓Ab,ex,Ro,AC,A5,Ad,Nat.reduceLT,Int.reduceLE,Int.reduceLT,Nat.reducePow,Nat.reduceAnd,Nat.reduceOr,Nat.reduceShiftRight,Int.reduceToNat,reduceCtorEq,Nat.reduceAdd,Nat.reduceMul,Nat.reduceSub,Nat.reduceBEq,Nat.reduceEqDiff,Nat.reduceLeDiff]
    intro j hj
    rw [if_pos Aa]
  ·have d0:decide ((i:Int) < 8)=true:=decide_eq_true Aa
   have w1:IntKind.i64.wrap ((i:Int) + 1)=((i + 1:Nat):Int):=A9
   have w2:IntKind.i64.wrap (24 + (i:Int))=((24 + i:Nat):Int):=A9
   have w3:IntKind.i64.wrap (8 * (i:Int))=((8 * i:Nat):Int):=A9
   have w4:IntKind.i64.wrap (56 - ((8 * i:Nat):Int))=((56 - 8 * i:Nat):Int):=A9
   have w5:IntKind.u64.wrap ((56 - 8 * i:Nat):Int)=((56 - 8 * i:Nat):Int):=Cy Aa
   (refine es 30 ?_;simp only [d0,w1,w2,w3,w4,w5,Dx,↓Ab,A5,Ad,Nat.reduceLT,Int.reduceLE,Int.reduceLT,Nat.reducePow,Nat.reduceAnd,Nat.reduceOr,Nat.reduceShiftRight,Int.reduceToNat,reduceCtorEq,Nat.reduceAdd,Nat.reduceMul,Nat.reduceSub,Nat.reduceBEq,Nat.reduceEqDiff,Nat.reduceLeDiff,Nat.reduceBneDiff,Nat.reduceBNe,↓reduceIte])
   refine ⟨by omega,⟨by omega,by omega⟩,by omega,i + 1,by omega,by omega,?_⟩
   refine Aj.fr [0,1] [] hx Ax Ak ?_ ?_
   ·simp only [A7,Nat.reduceLT,reduceCtorEq,Nat.reduceEqDiff,Nat.reduceLeDiff,Nat.reduceBEq]
   ·simp only [A7,Nat.reduceLT,reduceCtorEq,Nat.reduceEqDiff,Nat.reduceLeDiff,Nat.reduceBEq]
    intro j hj
    by_cases h1:j=24 + i
    ·subst h1
     rw [if_pos rfl,if_pos Aa,B5,Dg.at_mk' _ _ hj,if_neg Aa,Nat.add_sub_cancel_left]
    ·rw [if_neg h1]
     by_cases h2:j < 24 + i
     ·rw [if_pos h2,if_pos Aa]
     ·rw [if_neg h2,if_neg Aa]
theorem Ar2 (ok:OkW2 M) (a b c d:BitVec 64) :
 Af M 209 [W a,W b,W c,W d] [] 0 (Q3 (dg (AP (w4 a b c d))) [] 0):=by
 refine Ac ok.k209 rfl fun x hx=>?_
 refine es 30 ?_
 simp only [Aty,Atr,Dx,↓Ab,A5,Ad,Nat.reduceLT,Int.reduceLE,Int.reduceLT,Nat.reducePow,Nat.reduceAnd,Nat.reduceOr,Nat.reduceShiftRight,Int.reduceToNat,reduceCtorEq,Nat.reduceAdd,Nat.reduceMul,Nat.reduceSub,Nat.reduceBEq,Nat.reduceEqDiff,Nat.reduceLeDiff,Nat.reduceBneDiff,Nat.reduceBNe,↓reduceIte]
 refine Ag (σ:=Nat) (fun i=>i≤32) (fun i=>fr 36 [(8,.ptr 0 []),(9,.sl 1 [] 0 4 1),(10,.ptr 2 []),(11,.int .i64 i)])
  (fun i=>[(0,.ar 1 32 (fun _=>B 0)),(1,.ar 1 4 (fun j=>W (w4 a b c d j))),(2,.ar 1 32 (fun j=>B (if j < i then (AP (w4 a b c d)).at j else 0)))]) (fun _=>3) (fun i=>32 - i) 0 Aa ?_ ?_
 ·refine Aj.fr [0,80,112] [] hx Ax Ak ?_ ?_
  ·simp only [A7,Nat.reduceLT,reduceCtorEq,Nat.reduceEqDiff,Nat.reduceLeDiff,Nat.reduceBEq]
  ·simp only [A7,Nat.reduceLT,reduceCtorEq,Nat.reduceEqDiff,Nat.reduceLeDiff,Nat.reduceBEq,B_0]
   refine ⟨?_,fun j _=>by rw [if_neg Aa]⟩
   intro j hj
   unfold w4
   repeat' split
   all_goals first | exact (Ds _ _ _ _ _).mpr rfl | omega
 ·intro i hi
  generalize w4 a b c d=w
  by_cases h32:i=32
  ·subst h32
   have d0:decide (((32:Nat):Int) < 32)=false:=rfl
   (refine es 30 ?_;simp only [d0,Dx,↓Ab,A5,Ad,Nat.reduceLT,Int.reduceLE,Int.reduceLT,Nat.reducePow,Nat.reduceAnd,Nat.reduceOr,Nat.reduceShiftRight,Int.reduceToNat,reduceCtorEq,Nat.reduceAdd,Nat.reduceMul,Nat.reduceSub,Nat.reduceBEq,Nat.reduceEqDiff,Nat.reduceLeDiff,Nat.reduceBneDiff,Nat.reduceBNe,↓reduceIte])
   refine Aq.mk hx [] [] (dg (AP w)) [] 0 Ak ?_ ?_ trivial ⟨rfl,rfl,rfl⟩
   ·simp only [Lc,↓Ab,ex,Ro,AC,A5,Ad,Nat.reduceLT,Int.reduceLE,Int.reduceLT,Nat.reducePow,Nat.reduceAnd,Nat.reduceOr,Nat.reduceShiftRight,Int.reduceToNat,reduceCtorEq,Nat.reduceAdd,Nat.reduceMul,Nat.reduceSub,Nat.reduceBEq,Nat.reduceEqDiff]
   ·simp only [Lb,↓Ab,ex,Ro,AC,A5,Ad,Nat.reduceLT,Int.reduceLE,Int.reduceLT,Nat.reducePow,Nat.reduceAnd,Nat.reduceOr,Nat.reduceShiftRight,Int.reduceToNat,reduceCtorEq,Nat.reduceAdd,Nat.reduceMul,Nat.reduceSub,Nat.reduceBEq,Nat.reduceEqDiff,Nat.reduceLeDiff]
    intro j hj
    rw [if_pos hj]
  ·have d0:decide ((i:Int) < 32)=true:=decide_eq_true Aa
   have w1:IntKind.i64.wrap ((i:Int) + 1)=((i + 1:Nat):Int):=A9
   have w2:IntKind.i64.wrap ((i:Int).tdiv 8)=((i / 8:Nat):Int):=Z1
   have w3:(i:Int).tmod 8=((i % 8:Nat):Int):=Ji
   have w4:IntKind.i64.wrap (8 * ((i % 8:Nat):Int))=((8 * (i % 8):Nat):Int):=A9
   have w5:IntKind.i64.wrap (56 - ((8 * (i % 8):Nat):Int))=((56 - 8 * (i % 8):Nat):Int):=A9
   have w6:IntKind.u64.wrap ((56 - 8 * (i % 8):Nat):Int)=((56 - 8 * (i % 8):Nat):Int):=Cy Aa
   (refine es 30 ?_;simp only [d0,w1,w2,w3,w4,w5,w6,Dx,↓Ab,A5,Ad,Nat.reduceLT,Int.reduceLE,Int.reduceLT,Nat.reducePow,Nat.reduceAnd,Nat.reduceOr,Nat.reduceShiftRight,Int.reduceToNat,reduceCtorEq,Nat.reduceAdd,Nat.reduceMul,Nat.reduceSub,Nat.reduceBEq,Nat.reduceEqDiff,Nat.reduceLeDiff,Nat.reduceBneDiff,Nat.reduceBNe,↓reduceIte])
   refine ⟨by omega,⟨by omega,by omega⟩,by omega,by omega,by omega,⟨by omega,by omega⟩,by omega,i + 1,by omega,by omega,?_⟩
   refine Aj.fr [0,1,2] [] hx Ax Ak ?_ ?_
   ·simp only [A7,Nat.reduceLT,reduceCtorEq,Nat.reduceEqDiff,Nat.reduceLeDiff,Nat.reduceBEq]
   ·simp only [A7,Nat.reduceLT,reduceCtorEq,Nat.reduceEqDiff,Nat.reduceLeDiff,Nat.reduceBEq]
    intro j hj
    by_cases h1:j=i
    ·subst h1
     rw [if_pos rfl,if_pos Aa,AP,Dg.at_mk' _ _ hj]
     rfl
    ·rw [if_neg h1]
     by_cases h2:j < i
     ·rw [if_pos h2,if_pos Aa]
     ·rw [if_neg h2,if_neg Aa]
theorem As2 (g:Nat→BitVec 64) (a:Nat):AP (w4 (g a) (g (a + 1)) (g (a + 2)) (g (a + 3)))=AP (fun j=>g (a + j)):=by
 apply Dg.ext'
 intro j hj
 rw [AP,AP,Dg.at_mk' _ _ hj,Dg.at_mk' _ _ hj]
 have:w4 (g a) (g (a + 1)) (g (a + 2)) (g (a + 3)) (j / 8)=g (a + j / 8):=by
  unfold w4
  have:j / 8=0 ∨ j / 8=1 ∨ j / 8=2 ∨ j / 8=3:=Aa
  rcases this with h | h | h | h <;> rw [h] <;> rfl
 unfold A6
 rw [this]
def Ati (g:Nat→BitVec 64):List Dg:=[AP g,AP fun j=>g (4 + j),AP fun j=>g (8 + j),AP fun j=>g (12 + j)]
theorem Ath (g:Nat→BitVec 64) (q:Nat) (hq:q < 4):(Ati g).getD q Dg.zero=AP (fun j=>g (4 * q + j)):=by
 have:q=0 ∨ q=1 ∨ q=2 ∨ q=3:=Aa
 rcases this with h | h | h | h <;> subst h
 ·show AP g=AP (fun j=>g (4 * 0 + j))
  congr 1;funext j;congr 1;omega
 all_goals rfl
theorem Asf (g:Nat→BitVec 64):Jw (Ati g) 2 0=B2 (B2 (AP g) (AP fun j=>g (4 + j))) (B2 (AP fun j=>g (8 + j)) (AP fun j=>g (12 + j))):=by
 rw [Uz,Uz,Uz]
 rfl
def Atm:LC:=(sr [mt 39 4,kl 40 56 [(cI 2),(.t 39)],mt 38 40,ee 41 38 0,ee 42 38 1,
 aB 6 32,sb 32 6 41,mt 7 42] (sr [mU 8 0] (.seq (sr [fa 43 2 1,lb 44 1 43] (.cond (.t 44) (.reg [mU 8 1]) .skip)) (.seq (.regd [⟨1,0,fa 46 1 1⟩,⟨2,1,lb 47 1 46⟩,⟨3,0,mt 48 8⟩,⟨4,0,fa 49 3 1⟩,⟨5,8,lb 50 1 49⟩,⟨6,31,kl 51 209 [(.t 47),(.t 48),(.t 50),(cU 0)]⟩,⟨0,0,la 45 32 6⟩,⟨7,127,kl 52 206 [(.t 45),(.t 51)]⟩,⟨8,255,sb 32 2 52⟩]) .ret))))
theorem As6 {x:Ctx} (okB:OkW2 M) (hx:x.k=0) (g:Nat→BitVec 64) (pc:BitVec 64) (hl:Bool) (xt:BitVec 64) :
 Bl M x (Aq M x [.cell 2 true 32] (Q3 (dg (DV g pc hl xt)) [] 0)) [.code Atm] 3 (fr 53 [(1,.ptr 0 []),(2,.ptr 1 []),(4,.sl 2 [] 0 4 32)])
  [(0,hdR (.lst 1 16 (fun j=>W (g j))) pc hl xt),(1,.ar 1 32 (fun _=>B 0)),(2,.ar 32 4 (fun j=>dg (AP (fun i=>g (4 * j + i)))))]:=by
 (refine es 4 ?_;simp only [Atm,hdR,Dx,↓Ab,A5,Ad,Nat.reduceLT,Int.reduceLE,Int.reduceLT,Nat.reducePow,Nat.reduceAnd,Nat.reduceOr,Nat.reduceShiftRight,Int.reduceToNat,reduceCtorEq,Nat.reduceAdd,Nat.reduceMul,Nat.reduceSub,Nat.reduceBEq,Nat.reduceEqDiff,Nat.reduceLeDiff,Nat.reduceBneDiff,Nat.reduceBNe,↓reduceIte])
 refine GQ [2] (Ask okB 2 Aa (Ati g) (row (Ati g)) (.inl rfl) (by show 4≤4;omega)) ⟨rfl,?_,trivial⟩ rfl ?_
 ·simp only [row,A7,Nat.reduceLT,reduceCtorEq,Nat.reduceEqDiff,Nat.reduceLeDiff,Nat.reduceBEq]
  exact ⟨rfl,Nat.le_refl 4,fun i hi=>(Ath g i hi).symm⟩
 simp only [A4,Ao,Dx,↓Ab,A5,Ad,Nat.reduceLT,Int.reduceLE,Int.reduceLT,Nat.reducePow,Nat.reduceAnd,Nat.reduceOr,Nat.reduceShiftRight,Int.reduceToNat,reduceCtorEq,Nat.reduceAdd,Nat.reduceMul,Nat.reduceSub,Nat.reduceBEq,Nat.reduceEqDiff,Nat.reduceLeDiff,Nat.reduceBneDiff,Nat.reduceBNe,↓reduceIte]
 cases hl
 ·(refine es 30 ?_;simp only [Dx,↓Ab,A5,Ad,Nat.reduceLT,Int.reduceLE,Int.reduceLT,Nat.reducePow,Nat.reduceAnd,Nat.reduceOr,Nat.reduceShiftRight,Int.reduceToNat,reduceCtorEq,Nat.reduceAdd,Nat.reduceMul,Nat.reduceSub,Nat.reduceBEq,Nat.reduceEqDiff,Nat.reduceLeDiff,Nat.reduceBneDiff,Nat.reduceBNe,↓reduceIte])
  refine ⟨_,_,AB (Ar2 okB pc 0 xt 0) (by simp only [A7,Nat.reduceLT,reduceCtorEq,Nat.reduceEqDiff,Nat.reduceLeDiff,Nat.reduceBEq];exact rfl) rfl ⟨rfl,rfl⟩,?_⟩
  simp only [Dx,↓Ab,A5,Ad,Nat.reduceLT,Int.reduceLE,Int.reduceLT,Nat.reducePow,Nat.reduceAnd,Nat.reduceOr,Nat.reduceShiftRight,Int.reduceToNat,reduceCtorEq,Nat.reduceAdd,Nat.reduceMul,Nat.reduceSub,Nat.reduceBEq,Nat.reduceEqDiff,Nat.reduceLeDiff,Nat.reduceBneDiff,Nat.reduceBNe,↓reduceIte]
  refine ⟨_,_,AB (Oe okB.b _ _) ⟨(AJ _ _ _ _ _).mpr rfl,(AJ _ _ _ _ _).mpr rfl,trivial⟩ rfl ⟨rfl,rfl⟩,?_⟩
  simp only [Dx,↓Ab,A5,Ad,Nat.reduceLT,Int.reduceLE,Int.reduceLT,Nat.reducePow,Nat.reduceAnd,Nat.reduceOr,Nat.reduceShiftRight,Int.reduceToNat,reduceCtorEq,Nat.reduceAdd,Nat.reduceMul,Nat.reduceSub,Nat.reduceBEq,Nat.reduceEqDiff,Nat.reduceLeDiff,Nat.reduceBneDiff,Nat.reduceBNe,↓reduceIte]
  refine Aq.mk hx [] [] (dg (DV g pc false xt)) [] 0 Ak ?_ ?_ trivial ⟨rfl,rfl,rfl⟩
  ·simp only [Lc,↓Ab,ex,Ro,AC,A5,Ad,Nat.reduceLT,Int.reduceLE,Int.reduceLT,Nat.reducePow,Nat.reduceAnd,Nat.reduceOr,Nat.reduceShiftRight,Int.reduceToNat,reduceCtorEq,Nat.reduceAdd,Nat.reduceMul,Nat.reduceSub,Nat.reduceBEq,Nat.reduceEqDiff]
  ·simp only [Asf]
   simp only [Lb,↓Ab,ex,Ro,AC,A5,Ad,Nat.reduceLT,Int.reduceLE,Int.reduceLT,Nat.reducePow,Nat.reduceAnd,Nat.reduceOr,Nat.reduceShiftRight,Int.reduceToNat,reduceCtorEq,Nat.reduceAdd,Nat.reduceMul,Nat.reduceSub,Nat.reduceBEq,Nat.reduceEqDiff,Nat.reduceLeDiff]
   exact fun _ _=>rfl
 ·(refine es 30 ?_;simp only [Dx,↓Ab,A5,Ad,Nat.reduceLT,Int.reduceLE,Int.reduceLT,Nat.reducePow,Nat.reduceAnd,Nat.reduceOr,Nat.reduceShiftRight,Int.reduceToNat,reduceCtorEq,Nat.reduceAdd,Nat.reduceMul,Nat.reduceSub,Nat.reduceBEq,Nat.reduceEqDiff,Nat.reduceLeDiff,Nat.reduceBneDiff,Nat.reduceBNe,↓reduceIte])
  refine ⟨_,_,AB (Ar2 okB pc 1 xt 0) (by simp only [A7,Nat.reduceLT,reduceCtorEq,Nat.reduceEqDiff,Nat.reduceLeDiff,Nat.reduceBEq];exact ⟨rfl,rfl⟩) rfl ⟨rfl,rfl⟩,?_⟩
  simp only [Dx,↓Ab,A5,Ad,Nat.reduceLT,Int.reduceLE,Int.reduceLT,Nat.reducePow,Nat.reduceAnd,Nat.reduceOr,Nat.reduceShiftRight,Int.reduceToNat,reduceCtorEq,Nat.reduceAdd,Nat.reduceMul,Nat.reduceSub,Nat.reduceBEq,Nat.reduceEqDiff,Nat.reduceLeDiff,Nat.reduceBneDiff,Nat.reduceBNe,↓reduceIte]
  refine ⟨_,_,AB (Oe okB.b _ _) ⟨(AJ _ _ _ _ _).mpr rfl,(AJ _ _ _ _ _).mpr rfl,trivial⟩ rfl ⟨rfl,rfl⟩,?_⟩
  simp only [Dx,↓Ab,A5,Ad,Nat.reduceLT,Int.reduceLE,Int.reduceLT,Nat.reducePow,Nat.reduceAnd,Nat.reduceOr,Nat.reduceShiftRight,Int.reduceToNat,reduceCtorEq,Nat.reduceAdd,Nat.reduceMul,Nat.reduceSub,Nat.reduceBEq,Nat.reduceEqDiff,Nat.reduceLeDiff,Nat.reduceBneDiff,Nat.reduceBNe,↓reduceIte]
  refine Aq.mk hx [] [] (dg (DV g pc true xt)) [] 0 Ak ?_ ?_ trivial ⟨rfl,rfl,rfl⟩
  ·simp only [Lc,↓Ab,ex,Ro,AC,A5,Ad,Nat.reduceLT,Int.reduceLE,Int.reduceLT,Nat.reducePow,Nat.reduceAnd,Nat.reduceOr,Nat.reduceShiftRight,Int.reduceToNat,reduceCtorEq,Nat.reduceAdd,Nat.reduceMul,Nat.reduceSub,Nat.reduceBEq,Nat.reduceEqDiff]
  ·simp only [Asf]
   simp only [Lb,↓Ab,ex,Ro,AC,A5,Ad,Nat.reduceLT,Int.reduceLE,Int.reduceLT,Nat.reducePow,Nat.reduceAnd,Nat.reduceOr,Nat.reduceShiftRight,Int.reduceToNat,reduceCtorEq,Nat.reduceAdd,Nat.reduceMul,Nat.reduceSub,Nat.reduceBEq,Nat.reduceEqDiff,Nat.reduceLeDiff]
   exact fun _ _=>rfl
theorem Asc (okB:OkW2 M) (g:Nat→BitVec 64) (pc:BitVec 64) (hl:Bool) (xt:BitVec 64) :
 Af M 60 [hdR (.lst 1 16 (fun j=>W (g j))) pc hl xt] [] 0 (Q3 (dg (DV g pc hl xt)) [] 0):=by
 refine Ac okB.k60 rfl fun x hx=>?_
 refine es 30 ?_
 simp only [f60,c60,hdR,Dx,↓Ab,A5,Ad,Nat.reduceLT,Int.reduceLE,Int.reduceLT,Nat.reducePow,Nat.reduceAnd,Nat.reduceOr,Nat.reduceShiftRight,Int.reduceToNat,reduceCtorEq,Nat.reduceAdd,Nat.reduceMul,Nat.reduceSub,Nat.reduceBEq,Nat.reduceEqDiff,Nat.reduceLeDiff,Nat.reduceBneDiff,Nat.reduceBNe,↓reduceIte]
 refine Ag (σ:=Nat) (fun q=>q≤4) (fun q=>fr 53 [(1,.ptr 0 []),(2,.ptr 1 []),(3,.lst 1 16 (fun j=>W (g j))),(4,if q=0 then .nils else .sl 2 [] 0 q 32),(5,.int .i64 (4 * q:Nat))])
  (fun q=>if q=0 then [(0,hdR (.lst 1 16 (fun j=>W (g j))) pc hl xt),(1,.ar 1 32 (fun _=>B 0))] else [(0,hdR (.lst 1 16 (fun j=>W (g j))) pc hl xt),(1,.ar 1 32 (fun _=>B 0)),(2,.ar 32 q (fun j=>dg (AP (fun i=>g (4 * j + i)))))]) (fun q=>if q=0 then 2 else 3) (fun q=>4 - q) 0 Aa ?_ ?_
 ·simp only [if_true,hdR]
  refine Aj.fr [0,16] [] hx Ax Ak ?_ ?_
  ·simp only [A7,Nat.reduceLT,reduceCtorEq,Nat.reduceEqDiff,Nat.reduceLeDiff,Nat.reduceBEq]
   rfl
  ·simp only [A7,Nat.reduceLT,reduceCtorEq,Nat.reduceEqDiff,Nat.reduceLeDiff,Nat.reduceBEq,B_0]
 ·intro q hq
  by_cases h4:q=4
  ·subst h4
   have tail:=As6 okB hx g pc hl xt
   have d0:decide (((4 * 4:Nat):Int) < 16)=false:=rfl
   simp only [show ¬ (4=0) by omega,if_false]
   (refine es 5 ?_;simp only [d0,Dx,↓Ab,A5,Ad,Nat.reduceLT,Int.reduceLE,Int.reduceLT,Nat.reducePow,Nat.reduceAnd,Nat.reduceOr,Nat.reduceShiftRight,Int.reduceToNat,reduceCtorEq,Nat.reduceAdd,Nat.reduceMul,Nat.reduceSub,Nat.reduceBEq,Nat.reduceEqDiff,Nat.reduceLeDiff,Nat.reduceBneDiff,Nat.reduceBNe,↓reduceIte])
   refine Bl.weak _ _ _ ?_ tail
   refine Aj.fr [0,1,2] [] hx Ax Ak ?_ ?_
   ·simp only [A7,Nat.reduceLT,reduceCtorEq,Nat.reduceEqDiff,Nat.reduceLeDiff,Nat.reduceBEq]
   ·simp only [hdR,A7,Nat.reduceLT,reduceCtorEq,Nat.reduceEqDiff,Nat.reduceLeDiff,Nat.reduceBEq]
  ·have d0:decide (((4 * q:Nat):Int) < 16)=true:=decide_eq_true Aa
   have w0:IntKind.i64.wrap (((4 * q:Nat):Int) + 4)=((4 * (q + 1):Nat):Int):=A9
   have w1:IntKind.i64.wrap (((4 * q:Nat):Int) + 1)=((4 * q + 1:Nat):Int):=A9
   have w2:IntKind.i64.wrap (((4 * q:Nat):Int) + 2)=((4 * q + 2:Nat):Int):=A9
   have w3:IntKind.i64.wrap (((4 * q:Nat):Int) + 3)=((4 * q + 3:Nat):Int):=A9
   have hq1:(if q + 1=0 then V.nils else .sl 2 [] 0 (q + 1) 32) = .sl 2 [] 0 (q + 1) 32:=if_neg Aa
   have hq2:∀ (a b:Hp),(if q + 1=0 then a else b)=b:=fun _ _=>if_neg Aa
   have hq3:(if q + 1=0 then 2 else 3)=3:=if_neg Aa
   by_cases h0:q=0
   ·subst h0
    simp only [if_true]
    have w0:IntKind.i64.wrap (0 + 4)=4:=rfl
    have w1:IntKind.i64.wrap (0 + 1)=1:=rfl
    have w2:IntKind.i64.wrap (0 + 2)=2:=rfl
    have w3:IntKind.i64.wrap (0 + 3)=3:=rfl
    have d0:decide ((0:Int) < 16)=true:=rfl
    (refine es 30 ?_;simp only [d0,w0,w1,w2,w3,Dx,↓Ab,A5,Ad,Nat.reduceLT,Int.reduceLE,Int.reduceLT,Nat.reducePow,Nat.reduceAnd,Nat.reduceOr,Nat.reduceShiftRight,Int.reduceToNat,reduceCtorEq,Nat.reduceAdd,Nat.reduceMul,Nat.reduceSub,Nat.reduceBEq,Nat.reduceEqDiff,Nat.reduceLeDiff,Nat.reduceBneDiff,Nat.reduceBNe,↓reduceIte])
    refine ⟨_,_,AB (Ar2 okB (g 0) (g 1) (g 2) (g 3)) (by simp only [A7,Nat.reduceLT,reduceCtorEq,Nat.reduceEqDiff,Nat.reduceLeDiff,Nat.reduceBEq]) rfl ⟨rfl,rfl⟩,?_⟩
    simp only [Dx,↓Ab,A5,Ad,Nat.reduceLT,Int.reduceLE,Int.reduceLT,Nat.reducePow,Nat.reduceAnd,Nat.reduceOr,Nat.reduceShiftRight,Int.reduceToNat,reduceCtorEq,Nat.reduceAdd,Nat.reduceMul,Nat.reduceSub,Nat.reduceBEq,Nat.reduceEqDiff,Nat.reduceLeDiff,Nat.reduceBneDiff,Nat.reduceBNe,↓reduceIte]
    refine ⟨1,by omega,by omega,?_⟩
    rw [if_neg Nat.one_ne_zero,if_neg Nat.one_ne_zero,if_neg Nat.one_ne_zero]
    have e0:AP (w4 (g 0) (g 1) (g 2) (g 3))=AP (fun i=>g (4 * 0 + i)):=by
     have:=As2 g 0
     simpa using this
    rw [e0]
    refine Aj.fr [0,1,770] [] hx Ax Ak ?_ ?_
    ·simp only [A7,Nat.reduceLT,reduceCtorEq,Nat.reduceEqDiff,Nat.reduceLeDiff,Nat.reduceBEq]
     rfl
    ·simp only [hdR,A7,Nat.reduceLT,reduceCtorEq,Nat.reduceEqDiff,Nat.reduceLeDiff,Nat.reduceBEq]
     intro j hj
     have:j=0:=Aa
     subst this
     exact (AJ _ _ _ _ _).mpr rfl
   ·simp only [if_neg h0]
    (refine es 30 ?_;simp only [d0,w0,w1,w2,w3,Dx,↓Ab,A5,Ad,Nat.reduceLT,Int.reduceLE,Int.reduceLT,Nat.reducePow,Nat.reduceAnd,Nat.reduceOr,Nat.reduceShiftRight,Int.reduceToNat,reduceCtorEq,Nat.reduceAdd,Nat.reduceMul,Nat.reduceSub,Nat.reduceBEq,Nat.reduceEqDiff,Nat.reduceLeDiff,Nat.reduceBneDiff,Nat.reduceBNe,↓reduceIte])
    refine ⟨⟨by omega,by omega⟩,⟨by omega,by omega⟩,⟨by omega,by omega⟩,⟨by omega,by omega⟩,_,_,AB (Ar2 okB (g (4 * q)) (g (4 * q + 1)) (g (4 * q + 2)) (g (4 * q + 3))) (by simp only [A7,Nat.reduceLT,reduceCtorEq,Nat.reduceEqDiff,Nat.reduceLeDiff,Nat.reduceBEq]) rfl ⟨rfl,rfl⟩,?_⟩
    simp only [As2,Dx,↓Ab,A5,Ad,Nat.reduceLT,Int.reduceLE,Int.reduceLT,Nat.reducePow,Nat.reduceAnd,Nat.reduceOr,Nat.reduceShiftRight,Int.reduceToNat,reduceCtorEq,Nat.reduceAdd,Nat.reduceMul,Nat.reduceSub,Nat.reduceBEq,Nat.reduceEqDiff,Nat.reduceLeDiff,Nat.reduceBneDiff,Nat.reduceBNe,↓reduceIte]
    refine ⟨⟨by omega,by omega⟩,q + 1,by omega,by omega,?_⟩
    rw [hq1,hq2,hq3]
    refine Aj.fr [0,1,771] [] hx Ax Ak ?_ ?_
    ·simp only [A7,Nat.reduceLT,reduceCtorEq,Nat.reduceEqDiff,Nat.reduceLeDiff,Nat.reduceBEq]
    ·simp only [hdR,A7,Nat.reduceLT,reduceCtorEq,Nat.reduceEqDiff,Nat.reduceLeDiff,Nat.reduceBEq]
     intro j hj
     by_cases h1:j < q
     ·rw [if_pos h1];exact (AJ _ _ _ _ _).mpr rfl
     ·have:j=q:=Aa
      subst this
      rw [if_neg h1,if_pos Aa]
      exact (AJ _ _ _ _ _).mpr rfl
end Mv
