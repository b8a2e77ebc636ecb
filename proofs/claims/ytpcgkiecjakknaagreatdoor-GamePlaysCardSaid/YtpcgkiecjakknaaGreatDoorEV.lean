/- A part. -/
import Derived.Test.YtpcgkiecjakknaaGreatDoorEU
set_option linter.all false
set_option maxRecDepth 20000
set_option maxHeartbeats 4000000
namespace Mv
open Go
def mq (L:List (BitVec 64)) (c:Nat):Nat→BitVec 64
 | 0=>0
 | y + 1=>mq L c y ^^^ L.getD (c + 5 * y) 0
theorem As1 (L:List (BitVec 64)) (c:Nat):mq L c 5=par L c:=by
 simp [mq,par]
def bq (L:List (BitVec 64)) (x y j:Nat):BitVec 64:=if j % 5 < x ∨ (j % 5=x∧j / 5 < y) then Oj L 5 j else 0
def cq (L:List (BitVec 64)) (x y j:Nat):BitVec 64 :=
 if Ak5.getD j 0 % 5 < x ∨ (Ak5.getD j 0 % 5=x∧Ak5.getD j 0 / 5 < y) then rot (Oj L 5 (Ak5.getD j 0)) (Apn.getD j 0) else 0
theorem Aq0:∀ x,x < 5→∀ y,y < 5→∀ j,j < 25→(j=y + 5 * ((2 * x + 3 * y) % 5) ↔ Ak5.getD j 0=x + 5 * y):=Am
theorem Aq8:∀ j,j < 25→Apn.getD j 0=tv 24 (Ak5.getD j 0):=Am
theorem Arl:∀ j,j < 25→tv 24 j < 64:=Am
def aq (L C:List (BitVec 64)) (n j:Nat):BitVec 64:=if j < n then FZ C 5 j else L.getD j 0
theorem Wm:V.int .u64 18446744073709551615=W (BitVec.allOnes 64):=rfl
abbrev Atc (s:List (BitVec 64)):V→Hp→Nat→Prop:=fun r H' k'=>r = .ar 1 25 (ws (Zd s))∧H'=[]∧k'=0
theorem Am0 {M:Seat} (ok:OkB M) (s:List (BitVec 64)) :
 Ag M 415 [.ar 1 25 (ws s),.lst 1 24 (ws rc),.lst 1 25 (fun j=>.int .i64 (tv 24 j:Nat))] [] 0 (Atc s):=by
 refine Ab ok.k415 rfl fun x hx=>?_
 refine es 30 ?_
 simp only [Ar1,Ars,La3,↓Ad,AX,Ae,Nat.reduceLT,Int.reduceLE,Int.reduceLT,Nat.reducePow,Nat.reduceAnd,Nat.reduceOr,Nat.reduceShiftRight,Int.reduceToNat,reduceCtorEq,Nat.reduceAdd,Nat.reduceMul,Nat.reduceSub,Nat.reduceBEq,Nat.reduceEqDiff,Nat.reduceLeDiff,Nat.reduceBneDiff,Nat.reduceBNe,↓reduceIte]
 refine An (σ:=Nat) (fun i=>i≤24) (fun i=>fr 146 [(1,.lst 1 24 (ws rc)),(2,.lst 1 25 (fun j=>.int .i64 (tv 24 j:Nat))),(3,.ptr 0 []),(6,.ptr 1 []),(7,.int .i64 i)])
  (fun i=>[(0,.ar 1 25 (ws (Q8 s i))),(1,.ar 1 25 (fun _=>W 0))]) (fun _=>2) (fun i=>24 - i) 0 Aa ?_ ?_
 ·refine Ao.fr [0,16] [] hx AQ Am ?_ ?_
  ·simp only [Bo,Nat.reduceLT,reduceCtorEq,Nat.reduceEqDiff,Nat.reduceLeDiff,Nat.reduceBEq]
  ·simp only [Bo,Nat.reduceLT,reduceCtorEq,Nat.reduceEqDiff,Nat.reduceLeDiff,Nat.reduceBEq,W_0]
   exact fun _ _=>rfl
 ·intro i hi
  by_cases h24:i=24
  ·subst h24
   have d0:decide (((24:Nat):Int) < 24)=false:=rfl
   (refine es 30 ?_;simp (maxSteps:=2000000) only [d0,La3,↓Ad,AX,Ae,Nat.reduceLT,Int.reduceLE,Int.reduceLT,Nat.reducePow,Nat.reduceAnd,Nat.reduceOr,Nat.reduceShiftRight,Int.reduceToNat,reduceCtorEq,Nat.reduceAdd,Nat.reduceMul,Nat.reduceSub,Nat.reduceBEq,Nat.reduceEqDiff,Nat.reduceLeDiff,Nat.reduceBneDiff,Nat.reduceBNe,↓reduceIte])
   refine Ar.mk hx [] [] (.ar 1 25 (ws (Zd s))) [] 0 Am ?_ ?_ trivial ⟨rfl,rfl,rfl⟩
   ·simp only [SD,↓Ad,ex,Ro,AJ,AX,Ae,Nat.reduceLT,Int.reduceLE,Int.reduceLT,Nat.reducePow,Nat.reduceAnd,Nat.reduceOr,Nat.reduceShiftRight,Int.reduceToNat,reduceCtorEq,Nat.reduceAdd,Nat.reduceMul,Nat.reduceSub,Nat.reduceBEq,Nat.reduceEqDiff]
   ·simp only [Rs,↓Ad,ex,Ro,AJ,AX,Ae,Nat.reduceLT,Int.reduceLE,Int.reduceLT,Nat.reducePow,Nat.reduceAnd,Nat.reduceOr,Nat.reduceShiftRight,Int.reduceToNat,reduceCtorEq,Nat.reduceAdd,Nat.reduceMul,Nat.reduceSub,Nat.reduceBEq,Nat.reduceEqDiff,Nat.reduceLeDiff]
    exact fun _ _=>rfl
  have d0:decide ((i:Int) < 24)=true:=decide_eq_true Aa
  have wi:IntKind.i64.wrap ((i:Int) + 1)=((i + 1:Nat):Int):=AZ
  have hnext:Q8 s (i + 1)=rnd (Q8 s i) i:=rfl
  generalize Q8 s i=L at hnext ⊢
  (refine es 30 ?_;simp (maxSteps:=2000000) only [d0,La3,↓Ad,AX,Ae,Nat.reduceLT,Int.reduceLE,Int.reduceLT,Nat.reducePow,Nat.reduceAnd,Nat.reduceOr,Nat.reduceShiftRight,Int.reduceToNat,reduceCtorEq,Nat.reduceAdd,Nat.reduceMul,Nat.reduceSub,Nat.reduceBEq,Nat.reduceEqDiff,Nat.reduceLeDiff,Nat.reduceBneDiff,Nat.reduceBNe,↓reduceIte])
  refine An (σ:=Nat) (fun x=>x≤5) (fun x=>fr 146 [(1,.lst 1 24 (ws rc)),(2,.lst 1 25 (fun j=>.int .i64 (tv 24 j:Nat))),(3,.ptr 0 []),(6,.ptr 1 []),(7,.int .i64 i),(8,.ptr 2 []),(9,.ptr 3 []),(10,.int .i64 x)])
   (fun x=>[(0,.ar 1 25 (ws L)),(1,.ar 1 25 (fun _=>W 0)),(2,.ar 1 25 (fun j=>W (bq L x 0 j))),(3,.ar 1 25 (fun _=>W 0))]) (fun _=>4) (fun x=>5 - x) 0 Aa ?_ ?_
  ·refine Ao.fr [0,1,34,50] [] hx AQ Am ?_ ?_
   ·simp only [Bo,Nat.reduceLT,reduceCtorEq,Nat.reduceEqDiff,Nat.reduceLeDiff,Nat.reduceBEq]
   ·simp only [Bo,Nat.reduceLT,reduceCtorEq,Nat.reduceEqDiff,Nat.reduceLeDiff,Nat.reduceBEq,W_0]
    exact fun j _=>by rw [bq,if_neg Aa]
  ·intro u hu
   by_cases h5:u=5
   ·subst h5
    have d1:decide (((5:Nat):Int) < 5)=false:=rfl
    (refine es 30 ?_;simp (maxSteps:=2000000) only [d1,La3,↓Ad,AX,Ae,Nat.reduceLT,Int.reduceLE,Int.reduceLT,Nat.reducePow,Nat.reduceAnd,Nat.reduceOr,Nat.reduceShiftRight,Int.reduceToNat,reduceCtorEq,Nat.reduceAdd,Nat.reduceMul,Nat.reduceSub,Nat.reduceBEq,Nat.reduceEqDiff,Nat.reduceLeDiff,Nat.reduceBneDiff,Nat.reduceBNe,↓reduceIte])
    have hbt:∀ j,j < 25→bq L 5 0 j=Oj L 5 j:=fun j hj=>by rw [bq,if_pos Aa]
    refine An (σ:=Nat) (fun u=>u≤5) (fun u=>fr 146 [(1,.lst 1 24 (ws rc)),(2,.lst 1 25 (fun j=>.int .i64 (tv 24 j:Nat))),(3,.ptr 0 []),(6,.ptr 1 []),(7,.int .i64 i),(8,.ptr 2 []),(9,.ptr 3 []),(15,.int .i64 u)])
     (fun u=>[(0,.ar 1 25 (ws L)),(1,.ar 1 25 (fun _=>W 0)),(2,.ar 1 25 (fun j=>W (Oj L 5 j))),(3,.ar 1 25 (fun j=>W (cq L u 0 j)))]) (fun _=>4) (fun u=>5 - u) 0 Aa ?_ ?_
    ·refine Ao.fr [0,1,2,3] [] hx AQ Am ?_ ?_
     ·simp only [Bo,Nat.reduceLT,reduceCtorEq,Nat.reduceEqDiff,Nat.reduceLeDiff,Nat.reduceBEq]
     ·simp only [Bo,Nat.reduceLT,reduceCtorEq,Nat.reduceEqDiff,Nat.reduceLeDiff,Nat.reduceBEq]
      exact ⟨hbt,fun j _=>by rw [cq,if_neg Aa]⟩
    ·intro u hu
     by_cases h5:u=5
     ·subst h5
      have d1:decide (((5:Nat):Int) < 5)=false:=rfl
      (refine es 30 ?_;simp (maxSteps:=2000000) only [d1,La3,↓Ad,AX,Ae,Nat.reduceLT,Int.reduceLE,Int.reduceLT,Nat.reducePow,Nat.reduceAnd,Nat.reduceOr,Nat.reduceShiftRight,Int.reduceToNat,reduceCtorEq,Nat.reduceAdd,Nat.reduceMul,Nat.reduceSub,Nat.reduceBEq,Nat.reduceEqDiff,Nat.reduceLeDiff,Nat.reduceBneDiff,Nat.reduceBNe,↓reduceIte])
      have hC:∀ j,j < 25→cq L 5 0 j=(Sr (th L) 24).2.getD j 0:=fun j hj=>by
       have hs:=Amv j hj
       rw [Aqp _ (ZQ L) j hj,Zj _ _ hs,cq,if_pos Aa]
      generalize hCl:(Sr (th L) 24).2=C at hC
      refine An (σ:=Nat) (fun y=>y≤5) (fun y=>fr 146 [(1,.lst 1 24 (ws rc)),(2,.lst 1 25 (fun j=>.int .i64 (tv 24 j:Nat))),(3,.ptr 0 []),(6,.ptr 1 []),(7,.int .i64 i),(8,.ptr 2 []),(9,.ptr 3 []),(17,.int .i64 y)])
       (fun y=>[(0,.ar 1 25 (fun j=>W (aq L C (5 * y) j))),(1,.ar 1 25 (fun _=>W 0)),(2,.ar 1 25 (fun j=>W (Oj L 5 j))),(3,.ar 1 25 (ws C))]) (fun _=>4) (fun y=>5 - y) 0 Aa ?_ ?_
      ·refine Ao.fr [0,1,2,3] [] hx AQ Am ?_ ?_
       ·simp only [Bo,Nat.reduceLT,reduceCtorEq,Nat.reduceEqDiff,Nat.reduceLeDiff,Nat.reduceBEq]
       ·simp only [Bo,Nat.reduceLT,reduceCtorEq,Nat.reduceEqDiff,Nat.reduceLeDiff,Nat.reduceBEq]
        exact ⟨fun j _=>by rw [aq,if_neg Aa],hC⟩
      ·intro y hy
       by_cases hy5:y=5
       ·subst hy5
        have d2:decide (((5:Nat):Int) < 5)=false:=rfl
        (refine es 30 ?_;simp (maxSteps:=2000000) only [d2,wi,La3,↓Ad,AX,Ae,Nat.reduceLT,Int.reduceLE,Int.reduceLT,Nat.reducePow,Nat.reduceAnd,Nat.reduceOr,Nat.reduceShiftRight,Int.reduceToNat,reduceCtorEq,Nat.reduceAdd,Nat.reduceMul,Nat.reduceSub,Nat.reduceBEq,Nat.reduceEqDiff,Nat.reduceLeDiff,Nat.reduceBneDiff,Nat.reduceBNe,↓reduceIte])
        refine ⟨by omega,i + 1,by omega,by omega,?_⟩
        rw [hnext]
        refine Ao.fr [0,1] [] hx AQ Am ?_ ?_
        ·simp only [Bo,Nat.reduceLT,reduceCtorEq,Nat.reduceEqDiff,Nat.reduceLeDiff,Nat.reduceBEq]
        ·simp only [Bo,Nat.reduceLT,reduceCtorEq,Nat.reduceEqDiff,Nat.reduceLeDiff,Nat.reduceBEq]
         intro j hj
         rw [Adx _ _ _ hj,hCl]
         unfold aq
         by_cases h0:j=0
         ·subst h0
          rw [if_pos rfl,if_pos rfl,if_pos Aa]
         ·rw [if_neg h0,if_neg h0,if_pos Aa]
       ·have d2:decide ((y:Int) < 5)=true:=decide_eq_true Aa
        have wy:IntKind.i64.wrap ((y:Int) + 1)=((y + 1:Nat):Int):=AZ
        (refine es 30 ?_;simp (maxSteps:=2000000) only [d2,La3,↓Ad,AX,Ae,Nat.reduceLT,Int.reduceLE,Int.reduceLT,Nat.reducePow,Nat.reduceAnd,Nat.reduceOr,Nat.reduceShiftRight,Int.reduceToNat,reduceCtorEq,Nat.reduceAdd,Nat.reduceMul,Nat.reduceSub,Nat.reduceBEq,Nat.reduceEqDiff,Nat.reduceLeDiff,Nat.reduceBneDiff,Nat.reduceBNe,↓reduceIte])
        refine An (σ:=Nat) (fun u=>u≤5) (fun u=>fr 146 [(1,.lst 1 24 (ws rc)),(2,.lst 1 25 (fun j=>.int .i64 (tv 24 j:Nat))),(3,.ptr 0 []),(6,.ptr 1 []),(7,.int .i64 i),(8,.ptr 2 []),(9,.ptr 3 []),(17,.int .i64 y),(18,.int .i64 u)])
         (fun u=>[(0,.ar 1 25 (fun j=>W (aq L C (5 * y + u) j))),(1,.ar 1 25 (fun _=>W 0)),(2,.ar 1 25 (fun j=>W (Oj L 5 j))),(3,.ar 1 25 (ws C))]) (fun _=>4) (fun u=>5 - u) 0 Aa ?_ ?_
        ·refine Ao.fr [0,1,2,3] [] hx AQ Am ?_ ?_
         ·simp only [Bo,Nat.reduceLT,reduceCtorEq,Nat.reduceEqDiff,Nat.reduceLeDiff,Nat.reduceBEq]
         ·simp only [Bo,Nat.reduceLT,reduceCtorEq,Nat.reduceEqDiff,Nat.reduceLeDiff,Nat.reduceBEq]
          exact fun _ _=>rfl
        ·intro u hu
         by_cases hu5:u=5
         ·subst hu5
          have d3:decide (((5:Nat):Int) < 5)=false:=rfl
          (refine es 30 ?_;simp (maxSteps:=2000000) only [d3,wy,La3,↓Ad,AX,Ae,Nat.reduceLT,Int.reduceLE,Int.reduceLT,Nat.reducePow,Nat.reduceAnd,Nat.reduceOr,Nat.reduceShiftRight,Int.reduceToNat,reduceCtorEq,Nat.reduceAdd,Nat.reduceMul,Nat.reduceSub,Nat.reduceBEq,Nat.reduceEqDiff,Nat.reduceLeDiff,Nat.reduceBneDiff,Nat.reduceBNe,↓reduceIte])
          refine ⟨y + 1,by omega,by omega,?_⟩
          refine Ao.fr [0,1,2,3] [] hx AQ Am ?_ ?_
          ·simp only [Bo,Nat.reduceLT,reduceCtorEq,Nat.reduceEqDiff,Nat.reduceLeDiff,Nat.reduceBEq]
          ·simp only [Bo,Nat.reduceLT,reduceCtorEq,Nat.reduceEqDiff,Nat.reduceLeDiff,Nat.reduceBEq]
           exact fun _ _=>rfl
         ·have d3:decide ((u:Int) < 5)=true:=decide_eq_true Aa
          have w1:IntKind.i64.wrap ((u:Int) + 1)=((u + 1:Nat):Int):=AZ
          have w2:IntKind.i64.wrap (5 * (y:Int))=((5 * y:Nat):Int):=AZ
          have w3:IntKind.i64.wrap ((u:Int) + ((5 * y:Nat):Int))=((u + 5 * y:Nat):Int):=AZ
          have w4:((u + 1:Nat):Int).tmod 5=(((u + 1) % 5:Nat):Int):=by rw [Int.tmod_eq_emod_of_nonneg Aa];omega
          have w5:IntKind.i64.wrap ((((u + 1) % 5:Nat):Int) + ((5 * y:Nat):Int))=(((u + 1) % 5 + 5 * y:Nat):Int):=AZ
          have w6:IntKind.i64.wrap ((u:Int) + 2)=((u + 2:Nat):Int):=AZ
          have w7:((u + 2:Nat):Int).tmod 5=(((u + 2) % 5:Nat):Int):=by rw [Int.tmod_eq_emod_of_nonneg Aa];omega
          have w8:IntKind.i64.wrap ((((u + 2) % 5:Nat):Int) + ((5 * y:Nat):Int))=(((u + 2) % 5 + 5 * y:Nat):Int):=AZ
          (refine es 30 ?_;simp (maxSteps:=2000000) only [Wm,d3,w1,w2,w3,w4,w5,w6,w7,w8,La3,↓Ad,AX,Ae,Nat.reduceLT,Int.reduceLE,Int.reduceLT,Nat.reducePow,Nat.reduceAnd,Nat.reduceOr,Nat.reduceShiftRight,Int.reduceToNat,reduceCtorEq,Nat.reduceAdd,Nat.reduceMul,Nat.reduceSub,Nat.reduceBEq,Nat.reduceEqDiff,Nat.reduceLeDiff,Nat.reduceBneDiff,Nat.reduceBNe,↓reduceIte])
          refine ⟨by omega,by omega,by omega,by omega,by omega,by omega,by omega,by omega,by omega,by omega,by omega,by omega,by omega,u + 1,by omega,by omega,?_⟩
          refine Ao.fr [0,1,2,3] [] hx AQ Am ?_ ?_
          ·simp only [Bo,Nat.reduceLT,reduceCtorEq,Nat.reduceEqDiff,Nat.reduceLeDiff,Nat.reduceBEq]
          ·simp only [Bo,Nat.reduceLT,reduceCtorEq,Nat.reduceEqDiff,Nat.reduceLeDiff,Nat.reduceBEq]
           intro j hj
           by_cases h1:j=u + 5 * y
           ·subst h1
            have e1:(u + 5 * y) / 5=y:=Aa
            have e2:(u + 5 * y + 1) % 5=(u + 1) % 5:=Aa
            have e3:(u + 5 * y + 2) % 5=(u + 2) % 5:=Aa
            rw [if_pos rfl,aq,if_pos Aa,FZ,if_pos Aa,e1,e2,e3,BitVec.xor_allOnes,Nat.add_comm (5 * y),Nat.add_comm (5 * y)]
           ·rw [if_neg h1]
            unfold aq
            by_cases h2:j < 5 * y + u
            ·rw [if_pos h2,if_pos Aa]
            ·rw [if_neg h2,if_neg Aa]
     ·have d1:decide ((u:Int) < 5)=true:=decide_eq_true Aa
      have wu:IntKind.i64.wrap ((u:Int) + 1)=((u + 1:Nat):Int):=AZ
      (refine es 30 ?_;simp (maxSteps:=2000000) only [d1,La3,↓Ad,AX,Ae,Nat.reduceLT,Int.reduceLE,Int.reduceLT,Nat.reducePow,Nat.reduceAnd,Nat.reduceOr,Nat.reduceShiftRight,Int.reduceToNat,reduceCtorEq,Nat.reduceAdd,Nat.reduceMul,Nat.reduceSub,Nat.reduceBEq,Nat.reduceEqDiff,Nat.reduceLeDiff,Nat.reduceBneDiff,Nat.reduceBNe,↓reduceIte])
      refine An (σ:=Nat) (fun y=>y≤5) (fun y=>fr 146 [(1,.lst 1 24 (ws rc)),(2,.lst 1 25 (fun j=>.int .i64 (tv 24 j:Nat))),(3,.ptr 0 []),(6,.ptr 1 []),(7,.int .i64 i),(8,.ptr 2 []),(9,.ptr 3 []),(15,.int .i64 u),(16,.int .i64 y)])
       (fun y=>[(0,.ar 1 25 (ws L)),(1,.ar 1 25 (fun _=>W 0)),(2,.ar 1 25 (fun j=>W (Oj L 5 j))),(3,.ar 1 25 (fun j=>W (cq L u y j)))]) (fun _=>4) (fun y=>5 - y) 0 Aa ?_ ?_
      ·refine Ao.fr [0,1,2,3] [] hx AQ Am ?_ ?_
       ·simp only [Bo,Nat.reduceLT,reduceCtorEq,Nat.reduceEqDiff,Nat.reduceLeDiff,Nat.reduceBEq]
       ·simp only [Bo,Nat.reduceLT,reduceCtorEq,Nat.reduceEqDiff,Nat.reduceLeDiff,Nat.reduceBEq]
      ·intro y hy
       by_cases hy5:y=5
       ·subst hy5
        have d2:decide (((5:Nat):Int) < 5)=false:=rfl
        (refine es 30 ?_;simp (maxSteps:=2000000) only [d2,wu,La3,↓Ad,AX,Ae,Nat.reduceLT,Int.reduceLE,Int.reduceLT,Nat.reducePow,Nat.reduceAnd,Nat.reduceOr,Nat.reduceShiftRight,Int.reduceToNat,reduceCtorEq,Nat.reduceAdd,Nat.reduceMul,Nat.reduceSub,Nat.reduceBEq,Nat.reduceEqDiff,Nat.reduceLeDiff,Nat.reduceBneDiff,Nat.reduceBNe,↓reduceIte])
        refine ⟨u + 1,by omega,by omega,?_⟩
        refine Ao.fr [0,1,2,3] [] hx AQ Am ?_ ?_
        ·simp only [Bo,Nat.reduceLT,reduceCtorEq,Nat.reduceEqDiff,Nat.reduceLeDiff,Nat.reduceBEq]
        ·simp only [Bo,Nat.reduceLT,reduceCtorEq,Nat.reduceEqDiff,Nat.reduceLeDiff,Nat.reduceBEq]
         intro j hj
         have hs:=Amv j hj
         unfold cq
         by_cases h1:Ak5.getD j 0 % 5 < u ∨ (Ak5.getD j 0 % 5=u∧Ak5.getD j 0 / 5 < 5)
         ·rw [if_pos h1,if_pos Aa]
         ·rw [if_neg h1,if_neg Aa]
       ·have d2:decide ((y:Int) < 5)=true:=decide_eq_true Aa
        have w1:IntKind.i64.wrap ((y:Int) + 1)=((y + 1:Nat):Int):=AZ
        have w2:IntKind.i64.wrap (5 * (y:Int))=((5 * y:Nat):Int):=AZ
        have w3:IntKind.i64.wrap ((u:Int) + ((5 * y:Nat):Int))=((u + 5 * y:Nat):Int):=AZ
        have w4:IntKind.i64.wrap (2 * (u:Int))=((2 * u:Nat):Int):=AZ
        have w5:IntKind.i64.wrap (3 * (y:Int))=((3 * y:Nat):Int):=AZ
        have w6:IntKind.i64.wrap (((2 * u:Nat):Int) + ((3 * y:Nat):Int))=((2 * u + 3 * y:Nat):Int):=AZ
        have w7:((2 * u + 3 * y:Nat):Int).tmod 5=(((2 * u + 3 * y) % 5:Nat):Int):=by rw [Int.tmod_eq_emod_of_nonneg Aa];omega
        have w8:IntKind.i64.wrap (5 * (((2 * u + 3 * y) % 5:Nat):Int))=((5 * ((2 * u + 3 * y) % 5):Nat):Int):=AZ
        have w9:IntKind.i64.wrap ((y:Int) + ((5 * ((2 * u + 3 * y) % 5):Nat):Int))=((y + 5 * ((2 * u + 3 * y) % 5):Nat):Int):=AZ
        (refine es 30 ?_;simp (maxSteps:=2000000) only [d2,w1,w2,w3,w4,w5,w6,w7,w8,w9,La3,↓Ad,AX,Ae,Nat.reduceLT,Int.reduceLE,Int.reduceLT,Nat.reducePow,Nat.reduceAnd,Nat.reduceOr,Nat.reduceShiftRight,Int.reduceToNat,reduceCtorEq,Nat.reduceAdd,Nat.reduceMul,Nat.reduceSub,Nat.reduceBEq,Nat.reduceEqDiff,Nat.reduceLeDiff,Nat.reduceBneDiff,Nat.reduceBNe,↓reduceIte])
        refine ⟨by omega,by omega,by omega,by omega,_,_,AE (Amm ok _ _ (Arl (u + 5 * y) Aa)) ⟨rfl,rfl,trivial⟩ rfl ⟨rfl,rfl⟩,?_⟩
        simp only [La3,↓Ad,AX,Ae,Nat.reduceLT,Int.reduceLE,Int.reduceLT,Nat.reducePow,Nat.reduceAnd,Nat.reduceOr,Nat.reduceShiftRight,Int.reduceToNat,reduceCtorEq,Nat.reduceAdd,Nat.reduceMul,Nat.reduceSub,Nat.reduceBEq,Nat.reduceEqDiff,Nat.reduceLeDiff,Nat.reduceBneDiff,Nat.reduceBNe,↓reduceIte]
        refine ⟨by omega,by omega,by omega,y + 1,by omega,by omega,?_⟩
        refine Ao.fr [0,1,2,3] [] hx AQ Am ?_ ?_
        ·simp only [Bo,Nat.reduceLT,reduceCtorEq,Nat.reduceEqDiff,Nat.reduceLeDiff,Nat.reduceBEq]
        ·simp only [Bo,Nat.reduceLT,reduceCtorEq,Nat.reduceEqDiff,Nat.reduceLeDiff,Nat.reduceBEq]
         intro j hj
         have hs:=Amv j hj
         have hsa:=Aq0 u Aa y Aa j hj
         by_cases h1:j=y + 5 * ((2 * u + 3 * y) % 5)
         ·have h2:=hsa.mp h1
          rw [if_pos h1,cq,if_pos Aa,Aq8 j hj,h2]
         ·have h2:Ak5.getD j 0 ≠ u + 5 * y:=fun h=>h1 (hsa.mpr h)
          rw [if_neg h1]
          unfold cq
          by_cases h3:Ak5.getD j 0 % 5 < u ∨ (Ak5.getD j 0 % 5=u∧Ak5.getD j 0 / 5 < y)
          ·rw [if_pos h3,if_pos Aa]
          ·rw [if_neg h3,if_neg Aa]
   ·have d1:decide ((u:Int) < 5)=true:=decide_eq_true Aa
    have wu:IntKind.i64.wrap ((u:Int) + 1)=((u + 1:Nat):Int):=AZ
    (refine es 30 ?_;simp (maxSteps:=2000000) only [d1,La3,↓Ad,AX,Ae,Nat.reduceLT,Int.reduceLE,Int.reduceLT,Nat.reducePow,Nat.reduceAnd,Nat.reduceOr,Nat.reduceShiftRight,Int.reduceToNat,reduceCtorEq,Nat.reduceAdd,Nat.reduceMul,Nat.reduceSub,Nat.reduceBEq,Nat.reduceEqDiff,Nat.reduceLeDiff,Nat.reduceBneDiff,Nat.reduceBNe,↓reduceIte])
    refine An (σ:=Nat) (fun y=>y≤5) (fun y=>fr 146 [(1,.lst 1 24 (ws rc)),(2,.lst 1 25 (fun j=>.int .i64 (tv 24 j:Nat))),(3,.ptr 0 []),(6,.ptr 1 []),(7,.int .i64 i),(8,.ptr 2 []),(9,.ptr 3 []),(10,.int .i64 u),(11,W (mq L ((u + 4) % 5) y)),(12,W (mq L ((u + 1) % 5) y)),(13,.int .i64 (5 * y:Nat))])
     (fun y=>[(0,.ar 1 25 (ws L)),(1,.ar 1 25 (fun _=>W 0)),(2,.ar 1 25 (fun j=>W (bq L u 0 j))),(3,.ar 1 25 (fun _=>W 0))]) (fun _=>4) (fun y=>5 - y) 0 Aa ?_ ?_
    ·refine Ao.fr [0,1,2,3] [] hx AQ Am ?_ ?_
     ·simp only [Bo,Nat.reduceLT,reduceCtorEq,Nat.reduceEqDiff,Nat.reduceLeDiff,Nat.reduceBEq,W_0,mq]
      rfl
     ·simp only [Bo,Nat.reduceLT,reduceCtorEq,Nat.reduceEqDiff,Nat.reduceLeDiff,Nat.reduceBEq]
    ·intro y hy
     by_cases hy5:y=5
     ·subst hy5
      have d2:decide (((5 * 5:Nat):Int) < 25)=false:=rfl
      (refine es 30 ?_;simp (maxSteps:=2000000) only [d2,La3,↓Ad,AX,Ae,Nat.reduceLT,Int.reduceLE,Int.reduceLT,Nat.reducePow,Nat.reduceAnd,Nat.reduceOr,Nat.reduceShiftRight,Int.reduceToNat,reduceCtorEq,Nat.reduceAdd,Nat.reduceMul,Nat.reduceSub,Nat.reduceBEq,Nat.reduceEqDiff,Nat.reduceLeDiff,Nat.reduceBneDiff,Nat.reduceBNe,↓reduceIte])
      refine An (σ:=Nat) (fun y=>y≤5) (fun y=>fr 146 [(1,.lst 1 24 (ws rc)),(2,.lst 1 25 (fun j=>.int .i64 (tv 24 j:Nat))),(3,.ptr 0 []),(6,.ptr 1 []),(7,.int .i64 i),(8,.ptr 2 []),(9,.ptr 3 []),(10,.int .i64 u),(11,W (par L ((u + 4) % 5))),(12,W (par L ((u + 1) % 5))),(14,.int .i64 (5 * y:Nat))])
       (fun y=>[(0,.ar 1 25 (ws L)),(1,.ar 1 25 (fun _=>W 0)),(2,.ar 1 25 (fun j=>W (bq L u y j))),(3,.ar 1 25 (fun _=>W 0))]) (fun _=>4) (fun y=>5 - y) 0 Aa ?_ ?_
      ·refine Ao.fr [0,1,2,3] [] hx AQ Am ?_ ?_
       ·simp only [Bo,Nat.reduceLT,reduceCtorEq,Nat.reduceEqDiff,Nat.reduceLeDiff,Nat.reduceBEq,As1]
        rfl
       ·simp only [Bo,Nat.reduceLT,reduceCtorEq,Nat.reduceEqDiff,Nat.reduceLeDiff,Nat.reduceBEq]
      ·intro y hy
       by_cases hy5:y=5
       ·subst hy5
        have d2:decide (((5 * 5:Nat):Int) < 25)=false:=rfl
        (refine es 30 ?_;simp (maxSteps:=2000000) only [d2,wu,La3,↓Ad,AX,Ae,Nat.reduceLT,Int.reduceLE,Int.reduceLT,Nat.reducePow,Nat.reduceAnd,Nat.reduceOr,Nat.reduceShiftRight,Int.reduceToNat,reduceCtorEq,Nat.reduceAdd,Nat.reduceMul,Nat.reduceSub,Nat.reduceBEq,Nat.reduceEqDiff,Nat.reduceLeDiff,Nat.reduceBneDiff,Nat.reduceBNe,↓reduceIte])
        refine ⟨u + 1,by omega,by omega,?_⟩
        refine Ao.fr [0,1,2,3] [] hx AQ Am ?_ ?_
        ·simp only [Bo,Nat.reduceLT,reduceCtorEq,Nat.reduceEqDiff,Nat.reduceLeDiff,Nat.reduceBEq]
        ·simp only [Bo,Nat.reduceLT,reduceCtorEq,Nat.reduceEqDiff,Nat.reduceLeDiff,Nat.reduceBEq]
         intro j hj
         unfold bq
         by_cases h1:j % 5 < u ∨ (j % 5=u∧j / 5 < 5)
         ·rw [if_pos h1,if_pos Aa]
         ·rw [if_neg h1,if_neg Aa]
       ·have d2:decide (((5 * y:Nat):Int) < 25)=true:=decide_eq_true Aa
        have w1:IntKind.i64.wrap (((5 * y:Nat):Int) + 5)=((5 * (y + 1):Nat):Int):=AZ
        have w2:IntKind.i64.wrap ((u:Int) + ((5 * y:Nat):Int))=((u + 5 * y:Nat):Int):=AZ
        (refine es 30 ?_;simp (maxSteps:=2000000) only [d2,w1,w2,La3,↓Ad,AX,Ae,Nat.reduceLT,Int.reduceLE,Int.reduceLT,Nat.reducePow,Nat.reduceAnd,Nat.reduceOr,Nat.reduceShiftRight,Int.reduceToNat,reduceCtorEq,Nat.reduceAdd,Nat.reduceMul,Nat.reduceSub,Nat.reduceBEq,Nat.reduceEqDiff,Nat.reduceLeDiff,Nat.reduceBneDiff,Nat.reduceBNe,↓reduceIte])
        refine ⟨_,_,AE (Amm ok _ 1 Aa) ⟨rfl,rfl,trivial⟩ rfl ⟨rfl,rfl⟩,?_⟩
        simp only [La3,↓Ad,AX,Ae,Nat.reduceLT,Int.reduceLE,Int.reduceLT,Nat.reducePow,Nat.reduceAnd,Nat.reduceOr,Nat.reduceShiftRight,Int.reduceToNat,reduceCtorEq,Nat.reduceAdd,Nat.reduceMul,Nat.reduceSub,Nat.reduceBEq,Nat.reduceEqDiff,Nat.reduceLeDiff,Nat.reduceBneDiff,Nat.reduceBNe,↓reduceIte]
        refine ⟨by omega,by omega,by omega,by omega,by omega,y + 1,by omega,by omega,?_⟩
        refine Ao.fr [0,1,2,3] [] hx AQ Am ?_ ?_
        ·simp only [Bo,Nat.reduceLT,reduceCtorEq,Nat.reduceEqDiff,Nat.reduceLeDiff,Nat.reduceBEq]
        ·simp only [Bo,Nat.reduceLT,reduceCtorEq,Nat.reduceEqDiff,Nat.reduceLeDiff,Nat.reduceBEq]
         intro j hj
         by_cases h1:j=u + 5 * y
         ·subst h1
          have hm:(u + 5 * y) % 5=u:=Aa
          rw [if_pos rfl,bq,if_pos Aa,Oj,if_pos Aa,SS,hm,BitVec.xor_assoc]
         ·rw [if_neg h1]
          unfold bq
          by_cases h2:j % 5 < u ∨ (j % 5=u∧j / 5 < y)
          ·rw [if_pos h2,if_pos Aa]
          ·rw [if_neg h2,if_neg Aa]
     ·have d2:decide (((5 * y:Nat):Int) < 25)=true:=decide_eq_true Aa
      have w1:IntKind.i64.wrap (((5 * y:Nat):Int) + 5)=((5 * (y + 1):Nat):Int):=AZ
      have w2:IntKind.i64.wrap ((u:Int) + 4)=((u + 4:Nat):Int):=AZ
      have w3:((u + 4:Nat):Int).tmod 5=(((u + 4) % 5:Nat):Int):=by rw [Int.tmod_eq_emod_of_nonneg Aa];omega
      have w4:((u + 1:Nat):Int).tmod 5=(((u + 1) % 5:Nat):Int):=by rw [Int.tmod_eq_emod_of_nonneg Aa];omega
      have w5:IntKind.i64.wrap ((((u + 4) % 5:Nat):Int) + ((5 * y:Nat):Int))=(((u + 4) % 5 + 5 * y:Nat):Int):=AZ
      have w6:IntKind.i64.wrap ((((u + 1) % 5:Nat):Int) + ((5 * y:Nat):Int))=(((u + 1) % 5 + 5 * y:Nat):Int):=AZ
      (refine es 30 ?_;simp (maxSteps:=2000000) only [d2,w1,w2,w3,w4,w5,w6,wu,La3,↓Ad,AX,Ae,Nat.reduceLT,Int.reduceLE,Int.reduceLT,Nat.reducePow,Nat.reduceAnd,Nat.reduceOr,Nat.reduceShiftRight,Int.reduceToNat,reduceCtorEq,Nat.reduceAdd,Nat.reduceMul,Nat.reduceSub,Nat.reduceBEq,Nat.reduceEqDiff,Nat.reduceLeDiff,Nat.reduceBneDiff,Nat.reduceBNe,↓reduceIte])
      refine ⟨by omega,by omega,by omega,by omega,by omega,by omega,y + 1,by omega,by omega,?_⟩
      refine Ao.fr [0,1,2,3] [] hx AQ Am ?_ ?_
      ·simp only [Bo,Nat.reduceLT,reduceCtorEq,Nat.reduceEqDiff,Nat.reduceLeDiff,Nat.reduceBEq]
       exact ⟨rfl,rfl⟩
      ·simp only [Bo,Nat.reduceLT,reduceCtorEq,Nat.reduceEqDiff,Nat.reduceLeDiff,Nat.reduceBEq]
end Mv
