/- A part. -/
import Derived.Test.YtpcgkiecjakknaaGreatDoorEY
set_option linter.all false
set_option maxRecDepth 20000
set_option maxHeartbeats 4000000
namespace Mv
open Go
variable {M:Seat}
structure OkW2 (M:Seat):Prop where
 b:OkB M
 k56:Au M 56 f56=true
 k60:Au M 60 f60=true
 k65:Au M 65 f65=true
 k66:Au M 66 f66=true
 k203:Au M 203 Ash=true
 k204:Au M 204 Aos=true
 k209:Au M 209 Arp=true
def hdR (r:V) (pc:BitVec 64) (hl:Bool) (xt:BitVec 64):V :=
 .st 4 (.fcons 0 r (.fcons 1 (W pc) (.fcons 2 (.bool hl) (.fcons 3 (W xt) .fnil))))
theorem Ans (ok:OkW2 M) (d n:Nat) (hd:d≤16) (hn:n≤2 ^ d) :
 Ag M 203 [.int .i64 d,.int .i64 n] [] 0 (Q3 (.int .i64 0) [] 0):=by
 refine Ab ok.k203 rfl fun x hx=>?_
 have d1:decide ((d:Int) < 0)=false:=decide_eq_false Aa
 have d2:decide ((16:Int) < d)=false:=decide_eq_false Aa
 have w1:IntKind.u64.wrap (d:Int)=d:=EX Aa
 have d3:decide (((2 ^ d:Nat):Int) < n)=false:=decide_eq_false Aa
 refine es 30 ?_
 simp only [Ash,Asj,d1,d2,d3,w1,Tx hd,La3,↓Ad,AX,Ae,Nat.reduceLT,Int.reduceLE,Int.reduceLT,Nat.reducePow,Nat.reduceAnd,Nat.reduceOr,Nat.reduceShiftRight,Int.reduceToNat,reduceCtorEq,Nat.reduceAdd,Nat.reduceMul,Nat.reduceSub,Nat.reduceBEq,Nat.reduceEqDiff,Nat.reduceLeDiff,Nat.reduceBneDiff,Nat.reduceBNe,↓reduceIte]
 refine ⟨by omega,?_⟩
 refine Ar.mk hx [] [] (.int .i64 0) [] 0 Am ?_ ?_ trivial ⟨rfl,rfl,rfl⟩
 ·simp only [SD,↓Ad,ex,Ro,AJ,AX,Ae,Nat.reduceLT,Int.reduceLE,Int.reduceLT,Nat.reducePow,Nat.reduceAnd,Nat.reduceOr,Nat.reduceShiftRight,Int.reduceToNat,reduceCtorEq,Nat.reduceAdd,Nat.reduceMul,Nat.reduceSub,Nat.reduceBEq,Nat.reduceEqDiff]
 ·simp only [Rs,↓Ad,ex,Ro,AJ,AX,Ae,Nat.reduceLT,Int.reduceLE,Int.reduceLT,Nat.reducePow,Nat.reduceAnd,Nat.reduceOr,Nat.reduceShiftRight,Int.reduceToNat,reduceCtorEq,Nat.reduceAdd,Nat.reduceMul,Nat.reduceSub,Nat.reduceBEq,Nat.reduceEqDiff,Nat.reduceLeDiff]
def lvR (l:List Dg) (v:V):Prop:=v=row l ∨ (v = .nils∧l=[])
theorem Ali (l:List Dg):∀ h q,l.length≤q * 2 ^ h→HS l h q=At h
 | 0,q,hq=>Dv (by show l.length≤q;simpa using hq) _
 | h + 1, q, hq => by
   have e:q * 2 ^ (h + 1)=2 * q * 2 ^ h:=by rw [Nat.pow_succ];ac_rfl
   have e2:(2 * q + 1) * 2 ^ h=2 * q * 2 ^ h + 2 ^ h:=by rw [Nat.add_mul,Nat.one_mul]
   rw [SJ,Ali l h (2 * q) (by rw [← e];exact hq),Ali l h (2 * q + 1) (by rw [e2];exact Nat.le_trans (by rw [← e];exact hq) (Nat.le_add_right _ _))];rfl
abbrev ltZ:V:=.lst 32 17 (fun j=>dg (At j))
theorem An1 (ok:OkW2 M) (l:List Dg) (lv:V) (hlv:lvR l lv) (hl:l.length≤65536):∀ (h q:Nat),h≤16→q * 2 ^ h + 2 ^ h≤65536 →
 Ag M 204 [lv,.int .i64 (q * 2 ^ h:Nat),.int .i64 h,ltZ] [] 0 (Q3 (dg (HS l h q)) [] 0):=by
 intro h
 induction h with
 | zero =>
   intro q _ hq
   refine Ab ok.k204 rfl fun x hx=>?_
   have e:q * 2 ^ 0=q:=B5
   by_cases hout:l.length≤q
   ·rw [Ali l 0 q (by simpa using hout),e]
    have d1:decide (((l.length:Nat):Int)≤(q:Int))=true:=decide_eq_true Aa
    have d3:decide ((0:Int)≤(q:Int))=true:=decide_eq_true Aa
    rcases hlv with h1 | ⟨h1,h2⟩
    all_goals
     subst h1
     refine es 30 ?_
     simp only [Aos,Aot,row,d1,d3,La3,↓Ad,AX,Ae,Nat.reduceLT,Int.reduceLE,Int.reduceLT,Nat.reducePow,Nat.reduceAnd,Nat.reduceOr,Nat.reduceShiftRight,Int.reduceToNat,reduceCtorEq,Nat.reduceAdd,Nat.reduceMul,Nat.reduceSub,Nat.reduceBEq,Nat.reduceEqDiff,Nat.reduceLeDiff,Nat.reduceBneDiff,Nat.reduceBNe,↓reduceIte]
     refine Ar.mk hx [] [] (dg (At 0)) [] 0 Am ?_ ?_ trivial ⟨rfl,rfl,rfl⟩
     ·simp only [SD,↓Ad,ex,Ro,AJ,AX,Ae,Nat.reduceLT,Int.reduceLE,Int.reduceLT,Nat.reducePow,Nat.reduceAnd,Nat.reduceOr,Nat.reduceShiftRight,Int.reduceToNat,reduceCtorEq,Nat.reduceAdd,Nat.reduceMul,Nat.reduceSub,Nat.reduceBEq,Nat.reduceEqDiff]
     ·simp only [Rs,↓Ad,ex,Ro,AJ,AX,Ae,Nat.reduceLT,Int.reduceLE,Int.reduceLT,Nat.reducePow,Nat.reduceAnd,Nat.reduceOr,Nat.reduceShiftRight,Int.reduceToNat,reduceCtorEq,Nat.reduceAdd,Nat.reduceMul,Nat.reduceSub,Nat.reduceBEq,Nat.reduceEqDiff,Nat.reduceLeDiff]
   ·have d1:decide (((l.length:Nat):Int)≤(q:Int))=false:=decide_eq_false Aa
    have hrow:lv=row l:=by
     rcases hlv with h1 | ⟨_,h2⟩
     ·exact h1
     ·subst h2;simp at hout
    subst hrow
    rw [e]
    refine es 30 ?_
    simp only [Aos,Aot,row,d1,La3,↓Ad,AX,Ae,Nat.reduceLT,Int.reduceLE,Int.reduceLT,Nat.reducePow,Nat.reduceAnd,Nat.reduceOr,Nat.reduceShiftRight,Int.reduceToNat,reduceCtorEq,Nat.reduceAdd,Nat.reduceMul,Nat.reduceSub,Nat.reduceBEq,Nat.reduceEqDiff,Nat.reduceLeDiff,Nat.reduceBneDiff,Nat.reduceBNe,↓reduceIte]
    refine ⟨⟨by omega,by omega⟩,?_⟩
    refine Ar.mk hx [] [] (dg (HS l 0 q)) [] 0 Am ?_ ?_ trivial ⟨rfl,rfl,rfl⟩
    ·simp only [SD,↓Ad,ex,Ro,AJ,AX,Ae,Nat.reduceLT,Int.reduceLE,Int.reduceLT,Nat.reducePow,Nat.reduceAnd,Nat.reduceOr,Nat.reduceShiftRight,Int.reduceToNat,reduceCtorEq,Nat.reduceAdd,Nat.reduceMul,Nat.reduceSub,Nat.reduceBEq,Nat.reduceEqDiff]
    ·simp only [Rs,↓Ad,ex,Ro,AJ,AX,Ae,Nat.reduceLT,Int.reduceLE,Int.reduceLT,Nat.reducePow,Nat.reduceAnd,Nat.reduceOr,Nat.reduceShiftRight,Int.reduceToNat,reduceCtorEq,Nat.reduceAdd,Nat.reduceMul,Nat.reduceSub,Nat.reduceBEq,Nat.reduceEqDiff,Nat.reduceLeDiff]
     exact fun _ _=>rfl
 | succ h ih =>
   intro q hh hq
   refine Ab ok.k204 rfl fun x hx=>?_
   have e:q * 2 ^ (h + 1)=2 * q * 2 ^ h:=by rw [Nat.pow_succ];ac_rfl
   have e2:(2 * q + 1) * 2 ^ h=2 * q * 2 ^ h + 2 ^ h:=by rw [Nat.add_mul,Nat.one_mul]
   have e3:2 ^ (h + 1)=2 ^ h + 2 ^ h:=Y6
   by_cases hout:l.length≤q * 2 ^ (h + 1)
   ·rw [Ali l (h + 1) q hout]
    have d1:decide (((l.length:Nat):Int)≤((q * 2 ^ (h + 1):Nat):Int))=true:=decide_eq_true Aa
    have d3:decide ((0:Int)≤((q * 2 ^ (h + 1):Nat):Int))=true:=decide_eq_true Aa
    rcases hlv with h1 | ⟨h1,h2⟩
    all_goals
     subst h1
     refine es 30 ?_
     simp only [Aos,Aot,row,d1,d3,La3,↓Ad,AX,Ae,Nat.reduceLT,Int.reduceLE,Int.reduceLT,Nat.reducePow,Nat.reduceAnd,Nat.reduceOr,Nat.reduceShiftRight,Int.reduceToNat,reduceCtorEq,Nat.reduceAdd,Nat.reduceMul,Nat.reduceSub,Nat.reduceBEq,Nat.reduceEqDiff,Nat.reduceLeDiff,Nat.reduceBneDiff,Nat.reduceBNe,↓reduceIte]
     refine ⟨⟨by omega,by omega⟩,?_⟩
     refine Ar.mk hx [] [] (dg (At (h + 1))) [] 0 Am ?_ ?_ trivial ⟨rfl,rfl,rfl⟩
     ·simp only [SD,↓Ad,ex,Ro,AJ,AX,Ae,Nat.reduceLT,Int.reduceLE,Int.reduceLT,Nat.reducePow,Nat.reduceAnd,Nat.reduceOr,Nat.reduceShiftRight,Int.reduceToNat,reduceCtorEq,Nat.reduceAdd,Nat.reduceMul,Nat.reduceSub,Nat.reduceBEq,Nat.reduceEqDiff]
     ·simp only [Rs,↓Ad,ex,Ro,AJ,AX,Ae,Nat.reduceLT,Int.reduceLE,Int.reduceLT,Nat.reducePow,Nat.reduceAnd,Nat.reduceOr,Nat.reduceShiftRight,Int.reduceToNat,reduceCtorEq,Nat.reduceAdd,Nat.reduceMul,Nat.reduceSub,Nat.reduceBEq,Nat.reduceEqDiff,Nat.reduceLeDiff]
   ·have d1:decide (((l.length:Nat):Int)≤((q * 2 ^ (h + 1):Nat):Int))=false:=decide_eq_false Aa
    have d2:decide (((h + 1:Nat):Int)=0)=false:=decide_eq_false Aa
    have hrow:lv=row l:=by
     rcases hlv with h1 | ⟨_,h2⟩
     ·exact h1
     ·subst h2;simp at hout
    have w1:IntKind.i64.wrap (((h + 1:Nat):Int) - 1)=(h:Nat):=AZ
    have w2:IntKind.u64.wrap (h:Int)=h:=EX Aa
    have w3:IntKind.i64.wrap (((q * 2 ^ (h + 1):Nat):Int) + ((2 ^ h:Nat):Int))=(((2 * q + 1) * 2 ^ h:Nat):Int):=by rw [e2,e,AY Aa];omega
    subst hrow
    refine es 30 ?_
    simp only [Aos,Aot,row,d1,d2,w1,w2,w3,Tx (show h≤16 by omega),La3,↓Ad,AX,Ae,Nat.reduceLT,Int.reduceLE,Int.reduceLT,Nat.reducePow,Nat.reduceAnd,Nat.reduceOr,Nat.reduceShiftRight,Int.reduceToNat,reduceCtorEq,Nat.reduceAdd,Nat.reduceMul,Nat.reduceSub,Nat.reduceBEq,Nat.reduceEqDiff,Nat.reduceLeDiff,Nat.reduceBneDiff,Nat.reduceBNe,↓reduceIte]
    have ih1:=ih (2 * q) Aa Aa
    rw [← e] at ih1
    refine AE ih1 (by simp only [row,Bo,Nat.reduceLT,reduceCtorEq,Nat.reduceEqDiff,Nat.reduceLeDiff,Nat.reduceBEq]) rfl ?_
    refine ⟨by omega,?_⟩
    refine AE (ih (2 * q + 1) Aa Aa) (by simp only [row,Bo,Nat.reduceLT,reduceCtorEq,Nat.reduceEqDiff,Nat.reduceLeDiff,Nat.reduceBEq]) rfl ?_
    refine AE (Akb ok.b _ _) ⟨(AU _ _ _ _ _).mpr rfl,(AU _ _ _ _ _).mpr rfl,trivial⟩ rfl ?_
    simp only [La3,↓Ad,AX,Ae,Nat.reduceLT,Int.reduceLE,Int.reduceLT,Nat.reducePow,Nat.reduceAnd,Nat.reduceOr,Nat.reduceShiftRight,Int.reduceToNat,reduceCtorEq,Nat.reduceAdd,Nat.reduceMul,Nat.reduceSub,Nat.reduceBEq,Nat.reduceEqDiff,Nat.reduceLeDiff,Nat.reduceBneDiff,Nat.reduceBNe,↓reduceIte]
    refine Ar.mk hx [] [] (dg (HS l (h + 1) q)) [] 0 Am ?_ ?_ trivial ⟨rfl,rfl,rfl⟩
    ·simp only [SD,↓Ad,ex,Ro,AJ,AX,Ae,Nat.reduceLT,Int.reduceLE,Int.reduceLT,Nat.reducePow,Nat.reduceAnd,Nat.reduceOr,Nat.reduceShiftRight,Int.reduceToNat,reduceCtorEq,Nat.reduceAdd,Nat.reduceMul,Nat.reduceSub,Nat.reduceBEq,Nat.reduceEqDiff]
    ·simp only [SJ]
     simp only [Rs,↓Ad,ex,Ro,AJ,AX,Ae,Nat.reduceLT,Int.reduceLE,Int.reduceLT,Nat.reducePow,Nat.reduceAnd,Nat.reduceOr,Nat.reduceShiftRight,Int.reduceToNat,reduceCtorEq,Nat.reduceAdd,Nat.reduceMul,Nat.reduceSub,Nat.reduceBEq,Nat.reduceEqDiff,Nat.reduceLeDiff]
theorem Aoq {H:Hp} {m z:List Nat} {l:List Dg} {v:V} (h:lvR l v):Bi H m z v v:=by
 rcases h with h | ⟨h,_⟩
 ·subst h;exact Jb _ _ _ _
 ·subst h;trivial
theorem Am1 (ok:OkW2 M) (d:Nat) (hd:d≤16) (l:List Dg) (lv:V) (hlv:lvR l lv) (hl:l.length≤2 ^ d) :
 Ag M 56 [.int .i64 d,lv] [] 0 (Q3 (Ah (dg (HS l d 0)) (.int .i64 0)) [] 0):=by
 have hl2:l.length≤65536:=Nat.le_trans hl (Nat.pow_le_pow_right Aa hd)
 have hW:=Ans ok d l.length hd hl
 have hU:=An1 ok l lv hlv hl2 d 0 hd (by have:=Nat.pow_le_pow_right (n:=2) Aa hd;omega)
 have e:((0 * 2 ^ d:Nat):Int)=0:=B5
 rw [e] at hU
 refine Ab ok.k56 rfl fun x hx=>?_
 have hS:∀ H m z,Bi H m z lv lv:=fun H m z=>Aoq hlv
 rcases hlv with h1 | ⟨h1,h2⟩
 all_goals
  subst h1
  refine es 30 ?_
  simp only [f56,c56,row,La3,↓Ad,AX,Ae,Nat.reduceLT,Int.reduceLE,Int.reduceLT,Nat.reducePow,Nat.reduceAnd,Nat.reduceOr,Nat.reduceShiftRight,Int.reduceToNat,reduceCtorEq,Nat.reduceAdd,Nat.reduceMul,Nat.reduceSub,Nat.reduceBEq,Nat.reduceEqDiff,Nat.reduceLeDiff,Nat.reduceBneDiff,Nat.reduceBNe,↓reduceIte]
  try simp only [h2,List.length_nil,Int.natCast_zero] at hW
  refine AE hW (by simp only [Bo,Nat.reduceLT,reduceCtorEq,Nat.reduceEqDiff,Nat.reduceLeDiff,Nat.reduceBEq]) rfl ?_
  simp only [La3,↓Ad,AX,Ae,Nat.reduceLT,Int.reduceLE,Int.reduceLT,Nat.reducePow,Nat.reduceAnd,Nat.reduceOr,Nat.reduceShiftRight,Int.reduceToNat,reduceCtorEq,Nat.reduceAdd,Nat.reduceMul,Nat.reduceSub,Nat.reduceBEq,Nat.reduceEqDiff,Nat.reduceLeDiff,Nat.reduceBneDiff,Nat.reduceBNe,↓reduceIte]
  refine BE (Anq ok.b) False [] [] List.nodup_nil B5 rfl B5 trivial trivial ?_
  rintro r H' k' ⟨rfl,rfl,rfl⟩
  refine ⟨⟨by omega,fun h=>h.elim⟩,?_⟩
  simp only [Ar0,LN,V.ren,AV,A6,BS,Ex,Z3,List.append_nil,B3,ne_eq,CL,Nat.reduceEqDiff,reduceCtorEq]
  refine JL [176] hU ⟨hS _ _ _,rfl,rfl,by simp only [Bo,Nat.reduceLT,reduceCtorEq,Nat.reduceEqDiff,Nat.reduceLeDiff,Nat.reduceBEq],trivial⟩ rfl ?_
  simp only [A6,La3,↓Ad,AX,Ae,Nat.reduceLT,Int.reduceLE,Int.reduceLT,Nat.reducePow,Nat.reduceAnd,Nat.reduceOr,Nat.reduceShiftRight,Int.reduceToNat,reduceCtorEq,Nat.reduceAdd,Nat.reduceMul,Nat.reduceSub,Nat.reduceBEq,Nat.reduceEqDiff,Nat.reduceLeDiff,Nat.reduceBneDiff,Nat.reduceBNe,↓reduceIte,LN,V.ren,AV,Ex,Z3,List.append_nil]
  refine Ar.mk hx [] [] (Ah (dg (HS l d 0)) (.int .i64 0)) [] 0 Am ?_ ?_ trivial ⟨rfl,rfl,rfl⟩
  ·simp only [SD,↓Ad,ex,Ro,AJ,AX,Ae,Nat.reduceLT,Int.reduceLE,Int.reduceLT,Nat.reducePow,Nat.reduceAnd,Nat.reduceOr,Nat.reduceShiftRight,Int.reduceToNat,reduceCtorEq,Nat.reduceAdd,Nat.reduceMul,Nat.reduceSub,Nat.reduceBEq,Nat.reduceEqDiff]
   rfl
  ·simp only [Rs,↓Ad,ex,Ro,AJ,AX,Ae,Nat.reduceLT,Int.reduceLE,Int.reduceLT,Nat.reducePow,Nat.reduceAnd,Nat.reduceOr,Nat.reduceShiftRight,Int.reduceToNat,reduceCtorEq,Nat.reduceAdd,Nat.reduceMul,Nat.reduceSub,Nat.reduceBEq,Nat.reduceEqDiff,Nat.reduceLeDiff]
theorem Akt (ok:OkW2 M) (v:BitVec 64) :
 Ag M 66 [W v] [] 0 (Q3 (dg (BC v)) [] 0):=by
 refine Ab ok.k66 rfl fun x hx=>?_
 refine es 30 ?_
 simp only [f66,c66,La3,↓Ad,AX,Ae,Nat.reduceLT,Int.reduceLE,Int.reduceLT,Nat.reducePow,Nat.reduceAnd,Nat.reduceOr,Nat.reduceShiftRight,Int.reduceToNat,reduceCtorEq,Nat.reduceAdd,Nat.reduceMul,Nat.reduceSub,Nat.reduceBEq,Nat.reduceEqDiff,Nat.reduceLeDiff,Nat.reduceBneDiff,Nat.reduceBNe,↓reduceIte]
 refine An (σ:=Nat) (fun i=>i≤8) (fun i=>fr 20 [(0,W v),(2,.ptr 0 []),(3,.ptr 1 []),(4,.int .i64 i)])
  (fun i=>[(0,.ar 1 32 (fun _=>B 0)),(1,.ar 1 32 (fun j=>B (if j < 24 + i then (BC v).at j else 0)))]) (fun _=>2) (fun i=>8 - i) 0 Aa ?_ ?_
 ·refine Ao.fr [0,16] [] hx AQ Am ?_ ?_
  ·simp only [Bo,Nat.reduceLT,reduceCtorEq,Nat.reduceEqDiff,Nat.reduceLeDiff,Nat.reduceBEq]
  ·simp only [Bo,Nat.reduceLT,reduceCtorEq,Nat.reduceEqDiff,Nat.reduceLeDiff,Nat.reduceBEq,B_0]
   intro j hj
   by_cases h:j < 24
   ·rw [if_pos h,BC,Dg.at_mk' _ _ hj,if_pos h]
   ·rw [if_neg h]
 ·intro i hi
  by_cases h8:i=8
  ·subst h8
   have d0:decide (((8:Nat):Int) < 8)=false:=rfl
   (refine es 30 ?_;simp only [d0,La3,↓Ad,AX,Ae,Nat.reduceLT,Int.reduceLE,Int.reduceLT,Nat.reducePow,Nat.reduceAnd,Nat.reduceOr,Nat.reduceShiftRight,Int.reduceToNat,reduceCtorEq,Nat.reduceAdd,Nat.reduceMul,Nat.reduceSub,Nat.reduceBEq,Nat.reduceEqDiff,Nat.reduceLeDiff,Nat.reduceBneDiff,Nat.reduceBNe,↓reduceIte])
   refine Ar.mk hx [] [] (dg (BC v)) [] 0 Am ?_ ?_ trivial ⟨rfl,rfl,rfl⟩
   ·simp only [SD,↓Ad,ex,Ro,AJ,AX,Ae,Nat.reduceLT,Int.reduceLE,Int.reduceLT,Nat.reducePow,Nat.reduceAnd,Nat.reduceOr,Nat.reduceShiftRight,Int.reduceToNat,reduceCtorEq,Nat.reduceAdd,Nat.reduceMul,Nat.reduceSub,Nat.reduceBEq,Nat.reduceEqDiff]
   ·simp only [Rs,↓Ad,ex,Ro,AJ,AX,Ae,Nat.reduceLT,Int.reduceLE,Int.reduceLT,Nat.reducePow,Nat.reduceAnd,Nat.reduceOr,Nat.reduceShiftRight,Int.reduceToNat,reduceCtorEq,Nat.reduceAdd,Nat.reduceMul,Nat.reduceSub,Nat.reduceBEq,Nat.reduceEqDiff,Nat.reduceLeDiff]
    intro j hj
    rw [if_pos Aa]
  ·have d0:decide ((i:Int) < 8)=true:=decide_eq_true Aa
   have w1:IntKind.i64.wrap ((i:Int) + 1)=((i + 1:Nat):Int):=AZ
   have w2:IntKind.i64.wrap (24 + (i:Int))=((24 + i:Nat):Int):=AZ
   have w3:IntKind.i64.wrap (8 * (i:Int))=((8 * i:Nat):Int):=AZ
   have w4:IntKind.i64.wrap (56 - ((8 * i:Nat):Int))=((56 - 8 * i:Nat):Int):=AZ
   have w5:IntKind.u64.wrap ((56 - 8 * i:Nat):Int)=((56 - 8 * i:Nat):Int):=EX Aa
   (refine es 30 ?_;simp only [d0,w1,w2,w3,w4,w5,La3,↓Ad,AX,Ae,Nat.reduceLT,Int.reduceLE,Int.reduceLT,Nat.reducePow,Nat.reduceAnd,Nat.reduceOr,Nat.reduceShiftRight,Int.reduceToNat,reduceCtorEq,Nat.reduceAdd,Nat.reduceMul,Nat.reduceSub,Nat.reduceBEq,Nat.reduceEqDiff,Nat.reduceLeDiff,Nat.reduceBneDiff,Nat.reduceBNe,↓reduceIte])
   refine ⟨by omega,⟨by omega,by omega⟩,by omega,i + 1,by omega,by omega,?_⟩
   refine Ao.fr [0,1] [] hx AQ Am ?_ ?_
   ·simp only [Bo,Nat.reduceLT,reduceCtorEq,Nat.reduceEqDiff,Nat.reduceLeDiff,Nat.reduceBEq]
   ·simp only [Bo,Nat.reduceLT,reduceCtorEq,Nat.reduceEqDiff,Nat.reduceLeDiff,Nat.reduceBEq]
    intro j hj
    by_cases h1:j=24 + i
    ·subst h1
     rw [if_pos rfl,if_pos Aa,BC,Dg.at_mk' _ _ hj,if_neg Aa,Nat.add_sub_cancel_left]
    ·rw [if_neg h1]
     by_cases h2:j < 24 + i
     ·rw [if_pos h2,if_pos Aa]
     ·rw [if_neg h2,if_neg Aa]
theorem Akm (ok:OkW2 M) (a b c d:BitVec 64) :
 Ag M 209 [W a,W b,W c,W d] [] 0 (Q3 (dg (Bu (w4 a b c d))) [] 0):=by
 refine Ab ok.k209 rfl fun x hx=>?_
 refine es 30 ?_
 simp only [Arp,Ar9,La3,↓Ad,AX,Ae,Nat.reduceLT,Int.reduceLE,Int.reduceLT,Nat.reducePow,Nat.reduceAnd,Nat.reduceOr,Nat.reduceShiftRight,Int.reduceToNat,reduceCtorEq,Nat.reduceAdd,Nat.reduceMul,Nat.reduceSub,Nat.reduceBEq,Nat.reduceEqDiff,Nat.reduceLeDiff,Nat.reduceBneDiff,Nat.reduceBNe,↓reduceIte]
 refine An (σ:=Nat) (fun i=>i≤32) (fun i=>fr 36 [(8,.ptr 0 []),(9,.sl 1 [] 0 4 1),(10,.ptr 2 []),(11,.int .i64 i)])
  (fun i=>[(0,.ar 1 32 (fun _=>B 0)),(1,.ar 1 4 (fun j=>W (w4 a b c d j))),(2,.ar 1 32 (fun j=>B (if j < i then (Bu (w4 a b c d)).at j else 0)))]) (fun _=>3) (fun i=>32 - i) 0 Aa ?_ ?_
 ·refine Ao.fr [0,80,112] [] hx AQ Am ?_ ?_
  ·simp only [Bo,Nat.reduceLT,reduceCtorEq,Nat.reduceEqDiff,Nat.reduceLeDiff,Nat.reduceBEq]
  ·simp only [Bo,Nat.reduceLT,reduceCtorEq,Nat.reduceEqDiff,Nat.reduceLeDiff,Nat.reduceBEq,B_0]
   refine ⟨?_,fun j _=>by rw [if_neg Aa]⟩
   intro j hj
   unfold w4
   repeat' split
   all_goals first | exact (Rc _ _ _ _ _).mpr rfl | omega
 ·intro i hi
  generalize w4 a b c d=w
  by_cases h32:i=32
  ·subst h32
   have d0:decide (((32:Nat):Int) < 32)=false:=rfl
   (refine es 30 ?_;simp only [d0,La3,↓Ad,AX,Ae,Nat.reduceLT,Int.reduceLE,Int.reduceLT,Nat.reducePow,Nat.reduceAnd,Nat.reduceOr,Nat.reduceShiftRight,Int.reduceToNat,reduceCtorEq,Nat.reduceAdd,Nat.reduceMul,Nat.reduceSub,Nat.reduceBEq,Nat.reduceEqDiff,Nat.reduceLeDiff,Nat.reduceBneDiff,Nat.reduceBNe,↓reduceIte])
   refine Ar.mk hx [] [] (dg (Bu w)) [] 0 Am ?_ ?_ trivial ⟨rfl,rfl,rfl⟩
   ·simp only [SD,↓Ad,ex,Ro,AJ,AX,Ae,Nat.reduceLT,Int.reduceLE,Int.reduceLT,Nat.reducePow,Nat.reduceAnd,Nat.reduceOr,Nat.reduceShiftRight,Int.reduceToNat,reduceCtorEq,Nat.reduceAdd,Nat.reduceMul,Nat.reduceSub,Nat.reduceBEq,Nat.reduceEqDiff]
   ·simp only [Rs,↓Ad,ex,Ro,AJ,AX,Ae,Nat.reduceLT,Int.reduceLE,Int.reduceLT,Nat.reducePow,Nat.reduceAnd,Nat.reduceOr,Nat.reduceShiftRight,Int.reduceToNat,reduceCtorEq,Nat.reduceAdd,Nat.reduceMul,Nat.reduceSub,Nat.reduceBEq,Nat.reduceEqDiff,Nat.reduceLeDiff]
    intro j hj
    rw [if_pos hj]
  ·have d0:decide ((i:Int) < 32)=true:=decide_eq_true Aa
   have w1:IntKind.i64.wrap ((i:Int) + 1)=((i + 1:Nat):Int):=AZ
   have w2:IntKind.i64.wrap ((i:Int).tdiv 8)=((i / 8:Nat):Int):=by rw [Int.tdiv_eq_ediv_of_nonneg Aa,AY Aa];omega
   have w3:(i:Int).tmod 8=((i % 8:Nat):Int):=by rw [Int.tmod_eq_emod_of_nonneg Aa];omega
   have w4:IntKind.i64.wrap (8 * ((i % 8:Nat):Int))=((8 * (i % 8):Nat):Int):=AZ
   have w5:IntKind.i64.wrap (56 - ((8 * (i % 8):Nat):Int))=((56 - 8 * (i % 8):Nat):Int):=AZ
   have w6:IntKind.u64.wrap ((56 - 8 * (i % 8):Nat):Int)=((56 - 8 * (i % 8):Nat):Int):=EX Aa
   (refine es 30 ?_;simp only [d0,w1,w2,w3,w4,w5,w6,La3,↓Ad,AX,Ae,Nat.reduceLT,Int.reduceLE,Int.reduceLT,Nat.reducePow,Nat.reduceAnd,Nat.reduceOr,Nat.reduceShiftRight,Int.reduceToNat,reduceCtorEq,Nat.reduceAdd,Nat.reduceMul,Nat.reduceSub,Nat.reduceBEq,Nat.reduceEqDiff,Nat.reduceLeDiff,Nat.reduceBneDiff,Nat.reduceBNe,↓reduceIte])
   refine ⟨by omega,⟨by omega,by omega⟩,by omega,by omega,by omega,⟨by omega,by omega⟩,by omega,i + 1,by omega,by omega,?_⟩
   refine Ao.fr [0,1,2] [] hx AQ Am ?_ ?_
   ·simp only [Bo,Nat.reduceLT,reduceCtorEq,Nat.reduceEqDiff,Nat.reduceLeDiff,Nat.reduceBEq]
   ·simp only [Bo,Nat.reduceLT,reduceCtorEq,Nat.reduceEqDiff,Nat.reduceLeDiff,Nat.reduceBEq]
    intro j hj
    by_cases h1:j=i
    ·subst h1
     rw [if_pos rfl,if_pos Aa,Bu,Dg.at_mk' _ _ hj]
     rfl
    ·rw [if_neg h1]
     by_cases h2:j < i
     ·rw [if_pos h2,if_pos Aa]
     ·rw [if_neg h2,if_neg Aa]
theorem An6 (g:Nat→BitVec 64) (a:Nat):Bu (w4 (g a) (g (a + 1)) (g (a + 2)) (g (a + 3)))=Bu (fun j=>g (a + j)):=by
 apply Dg.ext'
 intro j hj
 rw [Bu,Bu,Dg.at_mk' _ _ hj,Dg.at_mk' _ _ hj]
 have:w4 (g a) (g (a + 1)) (g (a + 2)) (g (a + 3)) (j / 8)=g (a + j / 8):=by
  unfold w4
  have:j / 8=0 ∨ j / 8=1 ∨ j / 8=2 ∨ j / 8=3:=Aa
  rcases this with h | h | h | h <;> rw [h] <;> rfl
 unfold JB
 rw [this]
def Ape (g:Nat→BitVec 64):List Dg:=[Bu g,Bu fun j=>g (4 + j),Bu fun j=>g (8 + j),Bu fun j=>g (12 + j)]
theorem Apk (g:Nat→BitVec 64) (q:Nat) (hq:q < 4):(Ape g).getD q Dg.zero=Bu (fun j=>g (4 * q + j)):=by
 have:q=0 ∨ q=1 ∨ q=2 ∨ q=3:=Aa
 rcases this with h | h | h | h <;> subst h
 ·show Bu g=Bu (fun j=>g (4 * 0 + j))
  congr 1;funext j;congr 1;omega
 all_goals rfl
theorem Aml (g:Nat→BitVec 64):HS (Ape g) 2 0=Ch (Ch (Bu g) (Bu fun j=>g (4 + j))) (Ch (Bu fun j=>g (8 + j)) (Bu fun j=>g (12 + j))):=by
 rw [SJ,SJ,SJ]
 rfl
def Ap4:LC:=(sr [mt 39 4,kl 40 56 [(cI 2),(.t 39)],mt 38 40,ee 41 38 0,ee 42 38 1,
 aB 6 32,sb 32 6 41,mt 7 42] (sr [mU 8 0] (.seq (sr [fa 43 2 1,lb 44 1 43] (.cond (.t 44) (.reg [mU 8 1]) .skip)) (.seq (.regd [⟨1,0,fa 46 1 1⟩,⟨2,1,lb 47 1 46⟩,⟨3,0,mt 48 8⟩,⟨4,0,fa 49 3 1⟩,⟨5,8,lb 50 1 49⟩,⟨6,31,kl 51 209 [(.t 47),(.t 48),(.t 50),(cU 0)]⟩,⟨0,0,la 45 32 6⟩,⟨7,127,kl 52 206 [(.t 45),(.t 51)]⟩,⟨8,255,sb 32 2 52⟩]) .ret))))
theorem Aon {x:Ctx} (okB:OkW2 M) (hx:x.k=0) (g:Nat→BitVec 64) (pc:BitVec 64) (hl:Bool) (xt:BitVec 64) :
 Bm M x (Ar M x [.cell 2 true 32] (Q3 (dg (DT g pc hl xt)) [] 0)) [.code Ap4] 3 (fr 53 [(1,.ptr 0 []),(2,.ptr 1 []),(4,.sl 2 [] 0 4 32)])
  [(0,hdR (.lst 1 16 (fun j=>W (g j))) pc hl xt),(1,.ar 1 32 (fun _=>B 0)),(2,.ar 32 4 (fun j=>dg (Bu (fun i=>g (4 * j + i)))))]:=by
 (refine es 4 ?_;simp only [Ap4,hdR,La3,↓Ad,AX,Ae,Nat.reduceLT,Int.reduceLE,Int.reduceLT,Nat.reducePow,Nat.reduceAnd,Nat.reduceOr,Nat.reduceShiftRight,Int.reduceToNat,reduceCtorEq,Nat.reduceAdd,Nat.reduceMul,Nat.reduceSub,Nat.reduceBEq,Nat.reduceEqDiff,Nat.reduceLeDiff,Nat.reduceBneDiff,Nat.reduceBNe,↓reduceIte])
 refine JL [2] (Am1 okB 2 Aa (Ape g) (row (Ape g)) (.inl rfl) (by show 4≤4;omega)) ⟨rfl,?_,trivial⟩ rfl ?_
 ·simp only [row,Bo,Nat.reduceLT,reduceCtorEq,Nat.reduceEqDiff,Nat.reduceLeDiff,Nat.reduceBEq]
  exact ⟨rfl,Nat.le_refl 4,fun i hi=>(Apk g i hi).symm⟩
 simp only [A6,Ah,La3,↓Ad,AX,Ae,Nat.reduceLT,Int.reduceLE,Int.reduceLT,Nat.reducePow,Nat.reduceAnd,Nat.reduceOr,Nat.reduceShiftRight,Int.reduceToNat,reduceCtorEq,Nat.reduceAdd,Nat.reduceMul,Nat.reduceSub,Nat.reduceBEq,Nat.reduceEqDiff,Nat.reduceLeDiff,Nat.reduceBneDiff,Nat.reduceBNe,↓reduceIte]
 cases hl
 ·(refine es 30 ?_;simp only [La3,↓Ad,AX,Ae,Nat.reduceLT,Int.reduceLE,Int.reduceLT,Nat.reducePow,Nat.reduceAnd,Nat.reduceOr,Nat.reduceShiftRight,Int.reduceToNat,reduceCtorEq,Nat.reduceAdd,Nat.reduceMul,Nat.reduceSub,Nat.reduceBEq,Nat.reduceEqDiff,Nat.reduceLeDiff,Nat.reduceBneDiff,Nat.reduceBNe,↓reduceIte])
  refine ⟨_,_,AE (Akm okB pc 0 xt 0) (by simp only [Bo,Nat.reduceLT,reduceCtorEq,Nat.reduceEqDiff,Nat.reduceLeDiff,Nat.reduceBEq];exact rfl) rfl ⟨rfl,rfl⟩,?_⟩
  simp only [La3,↓Ad,AX,Ae,Nat.reduceLT,Int.reduceLE,Int.reduceLT,Nat.reducePow,Nat.reduceAnd,Nat.reduceOr,Nat.reduceShiftRight,Int.reduceToNat,reduceCtorEq,Nat.reduceAdd,Nat.reduceMul,Nat.reduceSub,Nat.reduceBEq,Nat.reduceEqDiff,Nat.reduceLeDiff,Nat.reduceBneDiff,Nat.reduceBNe,↓reduceIte]
  refine ⟨_,_,AE (Akb okB.b _ _) ⟨(AU _ _ _ _ _).mpr rfl,(AU _ _ _ _ _).mpr rfl,trivial⟩ rfl ⟨rfl,rfl⟩,?_⟩
  simp only [La3,↓Ad,AX,Ae,Nat.reduceLT,Int.reduceLE,Int.reduceLT,Nat.reducePow,Nat.reduceAnd,Nat.reduceOr,Nat.reduceShiftRight,Int.reduceToNat,reduceCtorEq,Nat.reduceAdd,Nat.reduceMul,Nat.reduceSub,Nat.reduceBEq,Nat.reduceEqDiff,Nat.reduceLeDiff,Nat.reduceBneDiff,Nat.reduceBNe,↓reduceIte]
  refine Ar.mk hx [] [] (dg (DT g pc false xt)) [] 0 Am ?_ ?_ trivial ⟨rfl,rfl,rfl⟩
  ·simp only [SD,↓Ad,ex,Ro,AJ,AX,Ae,Nat.reduceLT,Int.reduceLE,Int.reduceLT,Nat.reducePow,Nat.reduceAnd,Nat.reduceOr,Nat.reduceShiftRight,Int.reduceToNat,reduceCtorEq,Nat.reduceAdd,Nat.reduceMul,Nat.reduceSub,Nat.reduceBEq,Nat.reduceEqDiff]
  ·simp only [Aml]
   simp only [Rs,↓Ad,ex,Ro,AJ,AX,Ae,Nat.reduceLT,Int.reduceLE,Int.reduceLT,Nat.reducePow,Nat.reduceAnd,Nat.reduceOr,Nat.reduceShiftRight,Int.reduceToNat,reduceCtorEq,Nat.reduceAdd,Nat.reduceMul,Nat.reduceSub,Nat.reduceBEq,Nat.reduceEqDiff,Nat.reduceLeDiff]
   exact fun _ _=>rfl
 ·(refine es 30 ?_;simp only [La3,↓Ad,AX,Ae,Nat.reduceLT,Int.reduceLE,Int.reduceLT,Nat.reducePow,Nat.reduceAnd,Nat.reduceOr,Nat.reduceShiftRight,Int.reduceToNat,reduceCtorEq,Nat.reduceAdd,Nat.reduceMul,Nat.reduceSub,Nat.reduceBEq,Nat.reduceEqDiff,Nat.reduceLeDiff,Nat.reduceBneDiff,Nat.reduceBNe,↓reduceIte])
  refine ⟨_,_,AE (Akm okB pc 1 xt 0) (by simp only [Bo,Nat.reduceLT,reduceCtorEq,Nat.reduceEqDiff,Nat.reduceLeDiff,Nat.reduceBEq];exact ⟨rfl,rfl⟩) rfl ⟨rfl,rfl⟩,?_⟩
  simp only [La3,↓Ad,AX,Ae,Nat.reduceLT,Int.reduceLE,Int.reduceLT,Nat.reducePow,Nat.reduceAnd,Nat.reduceOr,Nat.reduceShiftRight,Int.reduceToNat,reduceCtorEq,Nat.reduceAdd,Nat.reduceMul,Nat.reduceSub,Nat.reduceBEq,Nat.reduceEqDiff,Nat.reduceLeDiff,Nat.reduceBneDiff,Nat.reduceBNe,↓reduceIte]
  refine ⟨_,_,AE (Akb okB.b _ _) ⟨(AU _ _ _ _ _).mpr rfl,(AU _ _ _ _ _).mpr rfl,trivial⟩ rfl ⟨rfl,rfl⟩,?_⟩
  simp only [La3,↓Ad,AX,Ae,Nat.reduceLT,Int.reduceLE,Int.reduceLT,Nat.reducePow,Nat.reduceAnd,Nat.reduceOr,Nat.reduceShiftRight,Int.reduceToNat,reduceCtorEq,Nat.reduceAdd,Nat.reduceMul,Nat.reduceSub,Nat.reduceBEq,Nat.reduceEqDiff,Nat.reduceLeDiff,Nat.reduceBneDiff,Nat.reduceBNe,↓reduceIte]
  refine Ar.mk hx [] [] (dg (DT g pc true xt)) [] 0 Am ?_ ?_ trivial ⟨rfl,rfl,rfl⟩
  ·simp only [SD,↓Ad,ex,Ro,AJ,AX,Ae,Nat.reduceLT,Int.reduceLE,Int.reduceLT,Nat.reducePow,Nat.reduceAnd,Nat.reduceOr,Nat.reduceShiftRight,Int.reduceToNat,reduceCtorEq,Nat.reduceAdd,Nat.reduceMul,Nat.reduceSub,Nat.reduceBEq,Nat.reduceEqDiff]
  ·simp only [Aml]
   simp only [Rs,↓Ad,ex,Ro,AJ,AX,Ae,Nat.reduceLT,Int.reduceLE,Int.reduceLT,Nat.reducePow,Nat.reduceAnd,Nat.reduceOr,Nat.reduceShiftRight,Int.reduceToNat,reduceCtorEq,Nat.reduceAdd,Nat.reduceMul,Nat.reduceSub,Nat.reduceBEq,Nat.reduceEqDiff,Nat.reduceLeDiff]
   exact fun _ _=>rfl
theorem Akh (okB:OkW2 M) (g:Nat→BitVec 64) (pc:BitVec 64) (hl:Bool) (xt:BitVec 64) :
 Ag M 60 [hdR (.lst 1 16 (fun j=>W (g j))) pc hl xt] [] 0 (Q3 (dg (DT g pc hl xt)) [] 0):=by
 refine Ab okB.k60 rfl fun x hx=>?_
 refine es 30 ?_
 simp only [f60,c60,hdR,La3,↓Ad,AX,Ae,Nat.reduceLT,Int.reduceLE,Int.reduceLT,Nat.reducePow,Nat.reduceAnd,Nat.reduceOr,Nat.reduceShiftRight,Int.reduceToNat,reduceCtorEq,Nat.reduceAdd,Nat.reduceMul,Nat.reduceSub,Nat.reduceBEq,Nat.reduceEqDiff,Nat.reduceLeDiff,Nat.reduceBneDiff,Nat.reduceBNe,↓reduceIte]
 refine An (σ:=Nat) (fun q=>q≤4) (fun q=>fr 53 [(1,.ptr 0 []),(2,.ptr 1 []),(3,.lst 1 16 (fun j=>W (g j))),(4,if q=0 then .nils else .sl 2 [] 0 q 32),(5,.int .i64 (4 * q:Nat))])
  (fun q=>if q=0 then [(0,hdR (.lst 1 16 (fun j=>W (g j))) pc hl xt),(1,.ar 1 32 (fun _=>B 0))] else [(0,hdR (.lst 1 16 (fun j=>W (g j))) pc hl xt),(1,.ar 1 32 (fun _=>B 0)),(2,.ar 32 q (fun j=>dg (Bu (fun i=>g (4 * j + i)))))]) (fun q=>if q=0 then 2 else 3) (fun q=>4 - q) 0 Aa ?_ ?_
 ·simp only [if_true,hdR]
  refine Ao.fr [0,16] [] hx AQ Am ?_ ?_
  ·simp only [Bo,Nat.reduceLT,reduceCtorEq,Nat.reduceEqDiff,Nat.reduceLeDiff,Nat.reduceBEq]
   rfl
  ·simp only [Bo,Nat.reduceLT,reduceCtorEq,Nat.reduceEqDiff,Nat.reduceLeDiff,Nat.reduceBEq,B_0]
 ·intro q hq
  by_cases h4:q=4
  ·subst h4
   have tail:=Aon okB hx g pc hl xt
   have d0:decide (((4 * 4:Nat):Int) < 16)=false:=rfl
   simp only [show ¬ (4=0) by omega,if_false]
   (refine es 5 ?_;simp only [d0,La3,↓Ad,AX,Ae,Nat.reduceLT,Int.reduceLE,Int.reduceLT,Nat.reducePow,Nat.reduceAnd,Nat.reduceOr,Nat.reduceShiftRight,Int.reduceToNat,reduceCtorEq,Nat.reduceAdd,Nat.reduceMul,Nat.reduceSub,Nat.reduceBEq,Nat.reduceEqDiff,Nat.reduceLeDiff,Nat.reduceBneDiff,Nat.reduceBNe,↓reduceIte])
   refine Bm.weak _ _ _ ?_ tail
   refine Ao.fr [0,1,2] [] hx AQ Am ?_ ?_
   ·simp only [Bo,Nat.reduceLT,reduceCtorEq,Nat.reduceEqDiff,Nat.reduceLeDiff,Nat.reduceBEq]
   ·simp only [hdR,Bo,Nat.reduceLT,reduceCtorEq,Nat.reduceEqDiff,Nat.reduceLeDiff,Nat.reduceBEq]
  ·have d0:decide (((4 * q:Nat):Int) < 16)=true:=decide_eq_true Aa
   have w0:IntKind.i64.wrap (((4 * q:Nat):Int) + 4)=((4 * (q + 1):Nat):Int):=AZ
   have w1:IntKind.i64.wrap (((4 * q:Nat):Int) + 1)=((4 * q + 1:Nat):Int):=AZ
   have w2:IntKind.i64.wrap (((4 * q:Nat):Int) + 2)=((4 * q + 2:Nat):Int):=AZ
   have w3:IntKind.i64.wrap (((4 * q:Nat):Int) + 3)=((4 * q + 3:Nat):Int):=AZ
   have hq1:(if q + 1=0 then V.nils else .sl 2 [] 0 (q + 1) 32) = .sl 2 [] 0 (q + 1) 32:=if_neg Aa
   have hq2:∀ (a b:Hp),(if q + 1=0 then a else b)=b:=fun _ _=>if_neg Aa
   have hq3:(if q + 1=0 then 2 else 3)=3:=if_neg Aa
   by_cases h0:q=0
   ·subst h0
    simp only [if_true]
    have w0:IntKind.i64.wrap (0 + 4)=4:=rfl
    have w1:IntKind.i64.wrap (0 + 1)=1:=rfl
    have w2:IntKind.i64.wrap (0 + 2)=2:=rfl
    have w3:IntKind.i64.wrap (0 + 3)=3:=rfl
    have d0:decide ((0:Int) < 16)=true:=rfl
    (refine es 30 ?_;simp only [d0,w0,w1,w2,w3,La3,↓Ad,AX,Ae,Nat.reduceLT,Int.reduceLE,Int.reduceLT,Nat.reducePow,Nat.reduceAnd,Nat.reduceOr,Nat.reduceShiftRight,Int.reduceToNat,reduceCtorEq,Nat.reduceAdd,Nat.reduceMul,Nat.reduceSub,Nat.reduceBEq,Nat.reduceEqDiff,Nat.reduceLeDiff,Nat.reduceBneDiff,Nat.reduceBNe,↓reduceIte])
    refine ⟨_,_,AE (Akm okB (g 0) (g 1) (g 2) (g 3)) (by simp only [Bo,Nat.reduceLT,reduceCtorEq,Nat.reduceEqDiff,Nat.reduceLeDiff,Nat.reduceBEq]) rfl ⟨rfl,rfl⟩,?_⟩
    simp only [La3,↓Ad,AX,Ae,Nat.reduceLT,Int.reduceLE,Int.reduceLT,Nat.reducePow,Nat.reduceAnd,Nat.reduceOr,Nat.reduceShiftRight,Int.reduceToNat,reduceCtorEq,Nat.reduceAdd,Nat.reduceMul,Nat.reduceSub,Nat.reduceBEq,Nat.reduceEqDiff,Nat.reduceLeDiff,Nat.reduceBneDiff,Nat.reduceBNe,↓reduceIte]
    refine ⟨1,by omega,by omega,?_⟩
    rw [if_neg Nat.one_ne_zero,if_neg Nat.one_ne_zero,if_neg Nat.one_ne_zero]
    have e0:Bu (w4 (g 0) (g 1) (g 2) (g 3))=Bu (fun i=>g (4 * 0 + i)):=by
     have:=An6 g 0
     simpa using this
    rw [e0]
    refine Ao.fr [0,1,770] [] hx AQ Am ?_ ?_
    ·simp only [Bo,Nat.reduceLT,reduceCtorEq,Nat.reduceEqDiff,Nat.reduceLeDiff,Nat.reduceBEq]
     rfl
    ·simp only [hdR,Bo,Nat.reduceLT,reduceCtorEq,Nat.reduceEqDiff,Nat.reduceLeDiff,Nat.reduceBEq]
     intro j hj
     have:j=0:=Aa
     subst this
     exact (AU _ _ _ _ _).mpr rfl
   ·simp only [if_neg h0]
    (refine es 30 ?_;simp only [d0,w0,w1,w2,w3,La3,↓Ad,AX,Ae,Nat.reduceLT,Int.reduceLE,Int.reduceLT,Nat.reducePow,Nat.reduceAnd,Nat.reduceOr,Nat.reduceShiftRight,Int.reduceToNat,reduceCtorEq,Nat.reduceAdd,Nat.reduceMul,Nat.reduceSub,Nat.reduceBEq,Nat.reduceEqDiff,Nat.reduceLeDiff,Nat.reduceBneDiff,Nat.reduceBNe,↓reduceIte])
    refine ⟨⟨by omega,by omega⟩,⟨by omega,by omega⟩,⟨by omega,by omega⟩,⟨by omega,by omega⟩,_,_,AE (Akm okB (g (4 * q)) (g (4 * q + 1)) (g (4 * q + 2)) (g (4 * q + 3))) (by simp only [Bo,Nat.reduceLT,reduceCtorEq,Nat.reduceEqDiff,Nat.reduceLeDiff,Nat.reduceBEq]) rfl ⟨rfl,rfl⟩,?_⟩
    simp only [An6,La3,↓Ad,AX,Ae,Nat.reduceLT,Int.reduceLE,Int.reduceLT,Nat.reducePow,Nat.reduceAnd,Nat.reduceOr,Nat.reduceShiftRight,Int.reduceToNat,reduceCtorEq,Nat.reduceAdd,Nat.reduceMul,Nat.reduceSub,Nat.reduceBEq,Nat.reduceEqDiff,Nat.reduceLeDiff,Nat.reduceBneDiff,Nat.reduceBNe,↓reduceIte]
    refine ⟨⟨by omega,by omega⟩,q + 1,by omega,by omega,?_⟩
    rw [hq1,hq2,hq3]
    refine Ao.fr [0,1,771] [] hx AQ Am ?_ ?_
    ·simp only [Bo,Nat.reduceLT,reduceCtorEq,Nat.reduceEqDiff,Nat.reduceLeDiff,Nat.reduceBEq]
    ·simp only [hdR,Bo,Nat.reduceLT,reduceCtorEq,Nat.reduceEqDiff,Nat.reduceLeDiff,Nat.reduceBEq]
     intro j hj
     by_cases h1:j < q
     ·rw [if_pos h1];exact (AU _ _ _ _ _).mpr rfl
     ·have:j=q:=Aa
      subst this
      rw [if_neg h1,if_pos Aa]
      exact (AU _ _ _ _ _).mpr rfl
end Mv
