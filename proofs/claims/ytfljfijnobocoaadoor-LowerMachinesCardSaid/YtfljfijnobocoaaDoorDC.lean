/- A part. -/
import Derived.Test.YtfljfijnobocoaaDoorDB
set_option linter.all false
set_option maxRecDepth 20000
set_option maxHeartbeats 4000000
namespace Mv
open Go
variable {M:Seat}
def Lf (s:List (BitVec 64)) (p:Nat→BitVec 8):List (BitVec 64):=Zd (mix s p)
theorem F4 (ok:OkM M) (s:List (BitVec 64)) (p:Nat→BitVec 8) :
 Ag M 318 [.ar 1 25 (ws s),.lst 1 136 (fun j=>B (p j))] [] 0 (Q3 (.ar 1 25 (ws (Lf s p))) [] 0):=by
 refine Ab ok.k318 rfl fun x hx=>?_
 refine es 30 ?_
 simp only [Ae5,Agz,E5,↓Ad,ex,Ro,AJ,AX,Ae,Nat.reduceLT,Int.reduceLE,Int.reduceLT,Nat.reducePow,Nat.reduceAnd,Nat.reduceOr,Nat.reduceShiftRight,Int.reduceToNat,reduceCtorEq,Nat.reduceAdd,Nat.reduceMul,Nat.reduceSub,Nat.reduceBEq,Nat.reduceEqDiff]
 refine An (σ:=Nat) (fun i=>i≤17) (fun i=>fr 38 [(1,.lst 1 136 (fun j=>B (p j))),(2,.ptr 0 []),(4,.ptr 1 []),(8,.int .i64 i)])
  (fun i=>[(0,.ar 1 25 (fun j=>W (Qg s p i 0 j))),(1,.ar 1 25 (fun _=>W 0))]) (fun _=>2) (fun i=>17 - i) 0 Aa ?_ ?_
 ·refine Ao.fr [0,16] [] hx AQ Am ?_ ?_
  ·simp only [Bo,Nat.reduceLT,reduceCtorEq,Nat.reduceEqDiff,Nat.reduceLeDiff,Nat.reduceBEq]
  ·simp only [Bo,Nat.reduceLT,reduceCtorEq,Nat.reduceEqDiff,Nat.reduceLeDiff,Nat.reduceBEq]
   exact ⟨fun j _=>(Aej _ _ _).symm,fun _ _=>by simp only [W,Az];rfl⟩
 ·intro i hi
  refine es 40 ?_
  simp only [E5,↓Ad,ex,Ro,AJ,AX,Ae,Nat.reduceLT,Int.reduceLE,Int.reduceLT,Nat.reducePow,Nat.reduceAnd,Nat.reduceOr,Nat.reduceShiftRight,Int.reduceToNat,reduceCtorEq,Nat.reduceAdd,Nat.reduceMul,Nat.reduceSub,Nat.reduceBEq,Nat.reduceEqDiff]
  refine ⟨fun hlt=>?_,fun hge=>?_⟩
  ·have hlt:(i:Int) < 17:=So
   have w1:IntKind.i64.wrap (8 * (i:Int))=8 * i:=AY Aa
   have w2:IntKind.i64.wrap (8 * (i:Int) + 8)=8 * i + 8:=AY Aa
   simp only [w1,w2]
   refine ⟨⟨by omega,by omega,by omega⟩,?_⟩
   refine An (σ:=Nat) (fun k=>k≤8) (fun k=>fr 38 [(1,.lst 1 136 (fun j=>B (p j))),(2,.ptr 0 []),(4,.ptr 1 []),(5,.int .i64 i),(8,.int .i64 i),(17,.lst 1 8 (fun j=>B (p (8 * i + j)))),(18,.int .i64 8),(19,.int .i64 k)])
    (fun k=>[(0,.ar 1 25 (fun j=>W (Qg s p i k j))),(1,.ar 1 25 (fun _=>W 0))]) (fun _=>2) (fun k=>8 - k) 0 Aa ?_ ?_
   ·refine Ao.fr [0,1] [] hx AQ Am ?_ ?_
    ·simp only [Bo,Nat.reduceLT,reduceCtorEq,Nat.reduceEqDiff,Nat.reduceLeDiff,Nat.reduceBEq]
     refine ⟨⟨by omega,fun j _=>?_⟩,by omega⟩
     have e1:(8 * (i:Int)).toNat=8 * i:=Aa
     rw [e1]
    ·simp only [Bo,Nat.reduceLT,reduceCtorEq,Nat.reduceEqDiff,Nat.reduceLeDiff,Nat.reduceBEq]
   ·intro k hk
    (refine es 40 ?_;simp (maxSteps:=2000000) only [Cz,↓Ad,ex,Ro,AJ,AX,Ae,Nat.reduceLT,Int.reduceLE,Int.reduceLT,Nat.reducePow,Nat.reduceAnd,Nat.reduceOr,Nat.reduceShiftRight,Int.reduceToNat,reduceCtorEq,Nat.reduceAdd,Nat.reduceMul,Nat.reduceSub,Nat.reduceBEq,Nat.reduceEqDiff])
    refine ⟨fun hlt2=>?_,fun hge2=>?_⟩
    ·have hlt2:(k:Int) < 8:=by simpa using hlt2
     have w3:IntKind.i64.wrap (8 * (k:Int))=8 * k:=AY Aa
     have w4:IntKind.i64.wrap ((k:Int) + 1)=((k + 1:Nat):Int):=AZ
     have w5:(8 * (k:Int)).toNat=8 * k:=Aa
     simp only [w3,w4,w5]
     refine ⟨⟨by omega,by omega⟩,⟨by omega,by omega⟩,by omega,by omega,by omega,⟨by omega,by omega⟩,by omega,k + 1,by omega,by omega,?_⟩
     refine Ao.fr [0,1] [] hx AQ Am ?_ ?_
     ·simp only [Bo,Nat.reduceLT,reduceCtorEq,Nat.reduceEqDiff,Nat.reduceLeDiff,Nat.reduceBEq]
     ·simp only [Bo,Nat.reduceLT,reduceCtorEq,Nat.reduceEqDiff,Nat.reduceLeDiff,Nat.reduceBEq]
      exact fun j _=>Aim _ _ _ _ _
    ·have hge2:¬ (k:Int) < 8:=by simpa using hge2
     have hk8:k=8:=Aa
     subst hk8
     have w4:IntKind.i64.wrap ((i:Int) + 1)=((i + 1:Nat):Int):=AZ
     refine ⟨i + 1,by omega,by omega,?_⟩
     refine Ao.fr [0,1] [] hx AQ Am ?_ ?_
     ·simp only [Bo,Nat.reduceLT,reduceCtorEq,Nat.reduceEqDiff,Nat.reduceLeDiff,Nat.reduceBEq,w4]
     ·simp only [Bo,Nat.reduceLT,reduceCtorEq,Nat.reduceEqDiff,Nat.reduceLeDiff,Nat.reduceBEq]
      exact fun j _=>Aez _ _ _ _
  ·have hge:¬ (i:Int) < 17:=Am5
   have hi17:i=17:=Aa
   subst hi17
   refine AE (Mq ok.k417 ok.k462 (mix s p)) ⟨?_,trivial⟩ rfl ?_
   ·simp only [Bo,Nat.reduceLT,reduceCtorEq,Nat.reduceEqDiff,Nat.reduceLeDiff,Nat.reduceBEq]
    exact fun j hj=>(ZI _ _ _ hj).symm
   simp only [E5,↓Ad,ex,Ro,AJ,AX,Ae,Nat.reduceLT,Int.reduceLE,Int.reduceLT,Nat.reducePow,Nat.reduceAnd,Nat.reduceOr,Nat.reduceShiftRight,Int.reduceToNat,reduceCtorEq,Nat.reduceAdd,Nat.reduceMul,Nat.reduceSub,Nat.reduceBEq,Nat.reduceEqDiff]
   refine Ar.mk hx [] [] (.ar 1 25 (ws (Lf s p))) [] 0 Am ?_ ?_ trivial ⟨rfl,rfl,rfl⟩
   ·simp only [Dz,G1,E5,↓Ad,ex,Ro,AJ,AX,Ae,Nat.reduceLT,Int.reduceLE,Int.reduceLT,Nat.reducePow,Nat.reduceAnd,Nat.reduceOr,Nat.reduceShiftRight,Int.reduceToNat,reduceCtorEq,Nat.reduceAdd,Nat.reduceMul,Nat.reduceSub,Nat.reduceBEq,Nat.reduceEqDiff]
   ·simp only [La6,LR,↓Ad,ex,Ro,AJ,AX,Ae,Nat.reduceLT,Int.reduceLE,Int.reduceLT,Nat.reducePow,Nat.reduceAnd,Nat.reduceOr,Nat.reduceShiftRight,Int.reduceToNat,reduceCtorEq,Nat.reduceAdd,Nat.reduceMul,Nat.reduceSub,Nat.reduceBEq,Nat.reduceEqDiff,Nat.reduceLeDiff]
    exact fun _ _=>rfl
theorem HI (ok:OkM M) (s:List (BitVec 64)) :
 Ag M 317 [.ar 1 25 (ws s)] [] 0 (Q3 (dg (Xg s)) [] 0):=by
 refine Ab ok.k317 rfl fun x hx=>?_
 refine es 30 ?_
 simp only [Agm,Ahi,E5,↓Ad,ex,Ro,AJ,AX,Ae,Nat.reduceLT,Int.reduceLE,Int.reduceLT,Nat.reducePow,Nat.reduceAnd,Nat.reduceOr,Nat.reduceShiftRight,Int.reduceToNat,reduceCtorEq,Nat.reduceAdd,Nat.reduceMul,Nat.reduceSub,Nat.reduceBEq,Nat.reduceEqDiff]
 refine An (σ:=Nat) (fun i=>i≤32) (fun i=>fr 21 [(1,.ptr 0 []),(2,.ptr 1 []),(3,.ptr 2 []),(5,.int .i64 i)])
  (fun i=>[(0,.ar 1 25 (ws s)),(1,.ar 1 32 (fun _=>B 0)),(2,.ar 1 32 (fun j=>B (if j < i then (Xg s).at j else 0)))]) (fun _=>3) (fun i=>32 - i) 0 Aa ?_ ?_
 ·refine Ao.fr [0,16,32] [] hx AQ Am ?_ ?_
  ·simp only [Bo,Nat.reduceLT,reduceCtorEq,Nat.reduceEqDiff,Nat.reduceLeDiff,Nat.reduceBEq]
  ·simp only [Bo,Nat.reduceLT,reduceCtorEq,Nat.reduceEqDiff,Nat.reduceLeDiff,Nat.reduceBEq]
   exact ⟨fun _ _=>by simp only [B,Az];rfl,fun _ _=>by rw [if_neg Aa];simp only [B,Az];rfl⟩
 ·intro i hi
  (refine es 40 ?_;simp (maxSteps:=2000000) only [Cz,↓Ad,ex,Ro,AJ,AX,Ae,Nat.reduceLT,Int.reduceLE,Int.reduceLT,Nat.reducePow,Nat.reduceAnd,Nat.reduceOr,Nat.reduceShiftRight,Int.reduceToNat,reduceCtorEq,Nat.reduceAdd,Nat.reduceMul,Nat.reduceSub,Nat.reduceBEq,Nat.reduceEqDiff])
  refine ⟨fun hlt=>?_,fun hge=>?_⟩
  ·have hlt:(i:Int) < 32:=So
   have w1:IntKind.i64.wrap ((i:Int) + 1)=((i + 1:Nat):Int):=AZ
   have w2:IntKind.i64.wrap ((i:Int).tdiv 8)=((i / 8:Nat):Int):=by rw [Int.tdiv_eq_ediv_of_nonneg Aa,AY Aa];omega
   have w3:IntKind.i64.wrap (8 * (i:Int).tmod 8)=((8 * (i % 8):Nat):Int):=by rw [Int.tmod_eq_emod_of_nonneg Aa,AY Aa];omega
   simp only [w1,w2,w3,Int.toNat_natCast]
   refine ⟨by omega,⟨by omega,by omega⟩,by omega,by omega,by omega,⟨by omega,by omega⟩,by omega,i + 1,by omega,by omega,?_⟩
   refine Ao.fr [0,1,2] [] hx AQ Am ?_ ?_
   ·simp only [Bo,Nat.reduceLT,reduceCtorEq,Nat.reduceEqDiff,Nat.reduceLeDiff,Nat.reduceBEq]
   ·simp only [Bo,Nat.reduceLT,reduceCtorEq,Nat.reduceEqDiff,Nat.reduceLeDiff,Nat.reduceBEq]
    intro j hj
    by_cases hji:j=i
    ·subst hji
     rw [if_pos rfl,if_pos Aa,Xg,Dg.at_mk' _ _ hj]
    ·rw [if_neg hji]
     by_cases h2:j < i
     ·rw [if_pos h2,if_pos Aa]
     ·rw [if_neg h2,if_neg Aa]
  ·have hge:¬ (i:Int) < 32:=Am5
   have hi17:i=32:=Aa
   subst hi17
   refine Ar.mk hx [] [] (dg (Xg s)) [] 0 Am ?_ ?_ trivial ⟨rfl,rfl,rfl⟩
   ·simp only [Dz,G1,E5,↓Ad,ex,Ro,AJ,AX,Ae,Nat.reduceLT,Int.reduceLE,Int.reduceLT,Nat.reducePow,Nat.reduceAnd,Nat.reduceOr,Nat.reduceShiftRight,Int.reduceToNat,reduceCtorEq,Nat.reduceAdd,Nat.reduceMul,Nat.reduceSub,Nat.reduceBEq,Nat.reduceEqDiff]
   ·simp only [La6,LR,↓Ad,ex,Ro,AJ,AX,Ae,Nat.reduceLT,Int.reduceLE,Int.reduceLT,Nat.reducePow,Nat.reduceAnd,Nat.reduceOr,Nat.reduceShiftRight,Int.reduceToNat,reduceCtorEq,Nat.reduceAdd,Nat.reduceMul,Nat.reduceSub,Nat.reduceBEq,Nat.reduceEqDiff,Nat.reduceLeDiff,dg]
    intro j hj
    rw [if_pos hj]
def Ch (a b:Dg):Dg:=Xg (Lf (List.replicate 25 0) (pad a b))
theorem YA (a b:Dg) (j:Nat):(if j=135 then V.int .u8 128 else if j=64 then V.int .u8 1 else if 32≤j∧j < 32 + min 32 104 then B (b.at (j - 32)) else if 0≤j∧j < min 32 136 then B (a.at (j - 0)) else V.int .u8 0)=B (pad a b j):=by
 have h1:V.int .u8 128=B 128:=rfl
 have h2:V.int .u8 1=B 1:=rfl
 have h3:V.int .u8 0=B 0:=rfl
 simp only [h1,h2,h3,KU,pad]
 congr 1
 repeat' split
 all_goals first | rfl | omega
theorem Bl (ok:OkM M) (a b:Dg) :
 Ag M 207 [dg a,dg b] [] 0 (Q3 (dg (Ch a b)) [] 0):=by
 refine Ab ok.k207 rfl fun x hx=>?_
 refine es 30 ?_
 simp only [Aiu,Afs,dg,E5,↓Ad,ex,Ro,AJ,AX,Ae,Nat.reduceLT,Int.reduceLE,Int.reduceLT,Nat.reducePow,Nat.reduceAnd,Nat.reduceOr,Nat.reduceShiftRight,Int.reduceToNat,reduceCtorEq,Nat.reduceAdd,Nat.reduceMul,Nat.reduceSub,Nat.reduceBEq,Nat.reduceEqDiff]
 first | refine ⟨⟨by omega,by omega⟩,⟨by omega,by omega⟩,?_,?_,?_⟩ | refine ⟨?_,?_,?_⟩
 ·rw [if_neg Aa,if_neg Aa];rfl
 ·rw [if_neg Aa,if_neg Aa];rfl
 refine JL [48] (F4 ok (List.replicate 25 0) (pad a b)) ?_ rfl ?_
 ·simp only [Bo,Nat.reduceLT,reduceCtorEq,Nat.reduceEqDiff,Nat.reduceLeDiff,Nat.reduceBEq,YA]
  intro j hj
  have e1:(List.replicate 25 (0:BitVec 64)).getD j 0=0:=by rw [List.getD,List.getElem?_replicate,if_pos hj];rfl
  rw [e1]
  simp only [W,Az];rfl
 simp only [A6,E5,↓Ad,ex,Ro,AJ,AX,Ae,Nat.reduceLT,Int.reduceLE,Int.reduceLT,Nat.reducePow,Nat.reduceAnd,Nat.reduceOr,Nat.reduceShiftRight,Int.reduceToNat,reduceCtorEq,Nat.reduceAdd,Nat.reduceMul,Nat.reduceSub,Nat.reduceBEq,Nat.reduceEqDiff]
 refine AE (HI ok (Lf (List.replicate 25 0) (pad a b))) ?_ rfl ?_
 ·simp only [Bo,Nat.reduceLT,reduceCtorEq,Nat.reduceEqDiff,Nat.reduceLeDiff,Nat.reduceBEq]
 simp only [dg,E5,↓Ad,ex,Ro,AJ,AX,Ae,Nat.reduceLT,Int.reduceLE,Int.reduceLT,Nat.reducePow,Nat.reduceAnd,Nat.reduceOr,Nat.reduceShiftRight,Int.reduceToNat,reduceCtorEq,Nat.reduceAdd,Nat.reduceMul,Nat.reduceSub,Nat.reduceBEq,Nat.reduceEqDiff]
 refine Ar.mk hx [] [] (dg (Ch a b)) [] 0 Am ?_ ?_ trivial ⟨rfl,rfl,rfl⟩
 ·simp only [Dz,G1,E5,↓Ad,ex,Ro,AJ,AX,Ae,Nat.reduceLT,Int.reduceLE,Int.reduceLT,Nat.reducePow,Nat.reduceAnd,Nat.reduceOr,Nat.reduceShiftRight,Int.reduceToNat,reduceCtorEq,Nat.reduceAdd,Nat.reduceMul,Nat.reduceSub,Nat.reduceBEq,Nat.reduceEqDiff]
 ·simp only [La6,LR,↓Ad,ex,Ro,AJ,AX,Ae,Nat.reduceLT,Int.reduceLE,Int.reduceLT,Nat.reducePow,Nat.reduceAnd,Nat.reduceOr,Nat.reduceShiftRight,Int.reduceToNat,reduceCtorEq,Nat.reduceAdd,Nat.reduceMul,Nat.reduceSub,Nat.reduceBEq,Nat.reduceEqDiff,Nat.reduceLeDiff,dg]
  exact fun _ _=>rfl
def At:Nat→Dg
 | 0=>Dg.zero
 | h + 1=>Ch (At h) (At h)
theorem Gz {M:Seat} (ok:OkM M) :
 Ag M 315 [] [] 0 (Q3 (.ar 32 17 (fun j=>dg (At j))) [] 0):=by
 refine Ab ok.k315 rfl fun x hx=>?_
 refine es 30 ?_
 simp only [Ah4,Ahq,E5,↓Ad,ex,Ro,AJ,AX,Ae,seval]
 refine An (σ:=Nat) (fun i=>1≤i∧i≤17) (fun i=>fr 19 [(0,.ptr 0 []),(1,.ptr 1 []),(2,.int .i64 i)])
  (fun i=>[(0,.ar 32 17 (fun _=>dg Dg.zero)),(1,.ar 32 17 (fun j=>dg (if j < i then At j else Dg.zero)))]) (fun _=>2) (fun i=>17 - i) 1 Aa ?_ ?_
 ·refine Ao.fr [0,16] [] hx AQ Am ?_ ?_
  ·simp only [Bo,seval]
  ·simp only [Bo,seval,Ws]
   intro j hj
   by_cases h:j < 1
   ·rw [if_pos h];have:j=0:=Aa
    subst this;rfl
   ·rw [if_neg h]
 ·intro i ⟨hi1,hi⟩
  (refine es 40 ?_;simp (maxSteps:=2000000) only [Cz,↓Ad,ex,Ro,AJ,AX,Ae,seval])
  refine ⟨fun hlt=>?_,fun hge=>?_⟩
  ·have hlt:(i:Int)≤16:=So
   have w1:IntKind.i64.wrap ((i:Int) - 1)=((i - 1:Nat):Int):=AZ
   have w2:IntKind.i64.wrap ((i:Int) + 1)=((i + 1:Nat):Int):=AZ
   simp only [w1,Int.toNat_natCast,if_pos (show i - 1 < i by omega)]
   repeat refine sd ?_
   refine ⟨_,_,AE (Bl ok _ _) ⟨(AU _ _ _ _ _).mpr rfl,(AU _ _ _ _ _).mpr rfl,trivial⟩ rfl ⟨rfl,rfl⟩,?_⟩
   simp only [E5,↓Ad,ex,Ro,AJ,AX,Ae,seval]
   repeat refine sd ?_
   refine ⟨i + 1,⟨by omega,by omega⟩,by omega,?_⟩
   refine Ao.fr [0,1] [] hx AQ Am ?_ ?_
   ·simp only [Bo,seval,w2]
   ·simp only [Bo,seval]
    intro j hj
    by_cases h1:j=i
    ·subst h1
     rw [if_pos rfl,if_pos Aa]
     obtain ⟨p,rfl⟩:∃ p,j=p + 1:=⟨j - 1,by omega⟩
     rfl
    ·rw [if_neg h1]
     by_cases h2:j < i
     ·rw [if_pos h2,if_pos Aa]
     ·rw [if_neg h2,if_neg Aa]
  ·have hge:¬ (i:Int)≤16:=Am5
   have hi17:i=17:=Aa
   subst hi17
   refine Ar.mk hx [] [] (.ar 32 17 (fun j=>dg (At j))) [] 0 Am ?_ ?_ trivial ⟨rfl,rfl,rfl⟩
   ·simp only [Dz,G1,E5,↓Ad,ex,Ro,AJ,AX,Ae,seval]
   ·simp only [La6,LR,↓Ad,ex,Ro,AJ,AX,Ae,seval]
    intro j hj
    rw [if_pos hj]
def Ah (a b:V):V:=.tup (.fcons 0 a (.fcons 1 b .fnil))
def AS (a b c:V):V:=.tup (.fcons 0 a (.fcons 1 b (.fcons 2 c .fnil)))
def Lam:=(aq7 @LU @La6 @dg.eq_1 @Ah.eq_1 @AS.eq_1 @FY.eq_1 @FY.eq_2)
theorem R4 {M:Seat} (ok:OkM M) (h:Nat) (hh:h≤16) :
 Ag M 197 [.int .i64 h] [] 0 (Q3 (Ah (dg (At h)) .nili) [] 0):=by
 refine Ab ok.k197 rfl fun x hx=>?_
 refine es 30 ?_
 simp only [Afq,Aeg,E5,↓Ad,ex,Ro,AJ,AX,Ae,seval]
 have h1:decide ((h:Int) < 0)=false:=B5
 have h2:decide ((16:Int) < h)=false:=DI
 simp only [h1,h2,E5,↓Ad,ex,Ro,AJ,AX,Ae,seval]
 refine AE (Gz ok) trivial rfl ?_
 simp only [E5,↓Ad,ex,Ro,AJ,AX,Ae,seval]
 repeat refine sd ?_
 refine Ar.mk hx [] [] (Ah (dg (At h)) .nili) [] 0 Am ?_ ?_ trivial ⟨rfl,rfl,rfl⟩
 ·simp only [Laj,G5,E5,↓Ad,ex,Ro,AJ,AX,Ae,seval]
  rfl
 ·simp only [La6,FY,Ah,LR,↓Ad,ex,Ro,AJ,AX,Ae,seval,dg]
def row (l:List Dg):V:=.lst 32 l.length (Fk l)
def A3 (f g:Nat→BitVec 64) (pc:BitVec 64) (hl:Bool) (ex:BitVec 64):V :=
 .st 8211 (.fcons 0 (.ar 1 8192 (fun j=>W (f j))) (.fcons 8192 (.ar 1 16 (fun j=>W (g j))) (.fcons 8208 (W pc) (.fcons 8209 (.bool hl) (.fcons 8210 (W ex) .fnil)))))
theorem Ow (ts:List Nat):AD true (.iface ts) .nili .nili=True:=by simp [AD]
theorem P5 (ts:List Nat):AK (.iface ts) .nili .nili=true:=rfl
theorem Aci (c:Bool) (ts:List Nat) (t:Nat) (v:V):AD c (.iface ts) (.ifc t v) .nili=True:=by simp [AD]
theorem Abd (ts:List Nat) (t:Nat) (v:V):AK (.iface ts) (.ifc t v) .nili=false:=by cases v <;> rfl
theorem Abn (c:Bool) (i:Nat) (p:List Stp):AD c .ptr (.ptr i p) .nilp=True:=by simp [AD]
theorem Adb (i:Nat) (p:List Stp):AK .ptr (.ptr i p) .nilp=false:=rfl
theorem UU (c:Bool) (v:V):AD c .ptr (.imm v) .nilp=True:=by simp [AD]
theorem Uo (v:V):AK .ptr (.imm v) .nilp=false:=rfl
def Ai4 (m r:Nat) (pc:BitVec 64) (hl:Bool) (ex:BitVec 64):V :=
 .st 5 (.fcons 0 (.sl m [] 0 8192 1) (.fcons 1 (.sl r [] 0 16 1) (.fcons 2 (W pc) (.fcons 3 (.bool hl) (.fcons 4 (W ex) .fnil)))))
theorem Amn (H:Hp) (m z:List Nat):Az H m z (W 0) (V.int .u64 0)=True:=by simp only [W,Az];exact eq_true rfl
theorem Am0 (H:Hp) (m z:List Nat):Az H m z (W 0#64) (V.int .u64 0)=True:=Amn H m z
theorem Amd {M:Seat} (ok:OkM M) :
 Ag M 74 [.nils] [] 0 (Q3 (Ah (.ptr 0 []) .nili) [(0,A3 (fun _=>0) (fun _=>0) 0 false 0)] 1):=by
 refine Ab ok.k74 rfl fun x hx=>?_
 refine es 30 ?_
 have d1:decide ((8192:Int) < 0)=false:=rfl
 simp only [f74,c74,d1,Cz,↓Ad,ex,Ro,AJ,AX,Ae,seval]
 refine Ar.mk hx [96] [] (Ah (.ptr 0 []) .nili) [(0,A3 (fun _=>0) (fun _=>0) 0 false 0)] 1 Am ?_ ?_ ?_ ⟨rfl,rfl,rfl⟩
 ·simp only [SD,↓Ad,ex,Ro,AJ,AX,Ae,seval]
 ·simp only [Lam,↓Ad,ex,Ro,AJ,AX,Ae,seval]
 ·simp only [A3,Amn,Am0,Bo,seval]
def Aln (rs:List (BitVec 64)):V:=.lst 1 rs.length (ws rs)
def Af3 (f g:Nat→BitVec 64) (pc:BitVec 64) (hl:Bool) (xt:BitVec 64) (m:Nat):Hp :=
 [(m,A3 f g pc hl xt),(m + 1,Ai4 (m + 2) (m + 3) pc hl xt),(m + 2,.ar 1 8192 (fun j=>W (f j))),(m + 3,.ar 1 16 (fun j=>W (g j)))]
end Mv
