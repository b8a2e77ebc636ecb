/- A part. -/
import Derived.Test.YtncipgmjhaiagaaGreatDoorGV
set_option linter.all false
set_option maxRecDepth 20000
set_option maxHeartbeats 4000000
namespace Mv
open Go
def mq (L:List (BitVec 64)) (c:Nat):Nat→BitVec 64
 | 0=>0
 | y + 1=>mq L c y ^^^ L.getD (c + 5 * y) 0
theorem Am0 (L:List (BitVec 64)) (c:Nat):mq L c 5=par L c:=by
 simp [mq,par]
def bq (L:List (BitVec 64)) (x y j:Nat):BitVec 64:=if j % 5 < x ∨ (j % 5=x∧j / 5 < y) then Jm L 5 j else 0
def cq (L:List (BitVec 64)) (x y j:Nat):BitVec 64 :=
 if F8.getD j 0 % 5 < x ∨ (F8.getD j 0 % 5=x∧F8.getD j 0 / 5 < y) then Qk (Jm L 5 (F8.getD j 0)) (W3.getD j 0) else 0
theorem Afu:∀ x,x < 5→∀ y,y < 5→∀ j,j < 25→(j=y + 5 * ((2 * x + 3 * y) % 5) ↔ F8.getD j 0=x + 5 * y):=Ak
theorem Ai7:∀ j,j < 25→W3.getD j 0=tv 24 (F8.getD j 0):=Ak
theorem Al8:∀ j,j < 25→tv 24 j < 64:=Ak
def aq (L C:List (BitVec 64)) (n j:Nat):BitVec 64:=if j < n then Gd C 5 j else L.getD j 0
theorem Wm:V.int .u64 18446744073709551615=W (BitVec.allOnes 64):=rfl
abbrev Ani (s:List (BitVec 64)):V→Hp→Nat→Prop:=fun r H' k'=>r = .ar 1 25 (ws (RF s))∧H'=[]∧k'=0
theorem NA {M:Seat} (ok:OkB M) (s:List (BitVec 64)) :
 Af M 415 [.ar 1 25 (ws s),.lst 1 24 (ws rc),.lst 1 25 (fun j=>.int .i64 (tv 24 j:Nat))] [] 0 (Ani s):=by
 refine Ac ok.k415 rfl fun x hx=>?_
 refine es 30 ?_
 simp only [Ag4,Al9,Dx,↓Ab,A5,Ad,Nat.reduceLT,Int.reduceLE,Int.reduceLT,Nat.reducePow,Nat.reduceAnd,Nat.reduceOr,Nat.reduceShiftRight,Int.reduceToNat,reduceCtorEq,Nat.reduceAdd,Nat.reduceMul,Nat.reduceSub,Nat.reduceBEq,Nat.reduceEqDiff,Nat.reduceLeDiff,Nat.reduceBneDiff,Nat.reduceBNe,↓reduceIte]
 refine Ag (σ:=Nat) (fun i=>i≤24) (fun i=>fr 146 [(1,.lst 1 24 (ws rc)),(2,.lst 1 25 (fun j=>.int .i64 (tv 24 j:Nat))),(3,.ptr 0 []),(6,.ptr 1 []),(7,.int .i64 i)])
  (fun i=>[(0,.ar 1 25 (ws (H6 s i))),(1,.ar 1 25 (fun _=>W 0))]) (fun _=>2) (fun i=>24 - i) 0 Aa ?_ ?_
 ·refine Aj.fr [0,16] [] hx Ax Ak ?_ ?_
  ·simp only [A7,Nat.reduceLT,reduceCtorEq,Nat.reduceEqDiff,Nat.reduceLeDiff,Nat.reduceBEq]
  ·simp only [A7,Nat.reduceLT,reduceCtorEq,Nat.reduceEqDiff,Nat.reduceLeDiff,Nat.reduceBEq,W_0]
   exact fun _ _=>rfl
 ·intro i hi
  by_cases h24:i=24
  ·subst h24
   have d0:decide (((24:Nat):Int) < 24)=false:=rfl
   (refine es 30 ?_;simp (maxSteps:=2000000) only [d0,Dx,↓Ab,A5,Ad,Nat.reduceLT,Int.reduceLE,Int.reduceLT,Nat.reducePow,Nat.reduceAnd,Nat.reduceOr,Nat.reduceShiftRight,Int.reduceToNat,reduceCtorEq,Nat.reduceAdd,Nat.reduceMul,Nat.reduceSub,Nat.reduceBEq,Nat.reduceEqDiff,Nat.reduceLeDiff,Nat.reduceBneDiff,Nat.reduceBNe,↓reduceIte])
   refine Aq.mk hx [] [] (.ar 1 25 (ws (RF s))) [] 0 Ak ?_ ?_ trivial ⟨rfl,rfl,rfl⟩
   ·simp only [Lc,↓Ab,ex,Ro,AC,A5,Ad,Nat.reduceLT,Int.reduceLE,Int.reduceLT,Nat.reducePow,Nat.reduceAnd,Nat.reduceOr,Nat.reduceShiftRight,Int.reduceToNat,reduceCtorEq,Nat.reduceAdd,Nat.reduceMul,Nat.reduceSub,Nat.reduceBEq,Nat.reduceEqDiff]
   ·simp only [Lb,↓Ab,ex,Ro,AC,A5,Ad,Nat.reduceLT,Int.reduceLE,Int.reduceLT,Nat.reducePow,Nat.reduceAnd,Nat.reduceOr,Nat.reduceShiftRight,Int.reduceToNat,reduceCtorEq,Nat.reduceAdd,Nat.reduceMul,Nat.reduceSub,Nat.reduceBEq,Nat.reduceEqDiff,Nat.reduceLeDiff]
    exact fun _ _=>rfl
  have d0:decide ((i:Int) < 24)=true:=decide_eq_true Aa
  have wi:IntKind.i64.wrap ((i:Int) + 1)=((i + 1:Nat):Int):=A9
  have hnext:H6 s (i + 1)=rnd (H6 s i) i:=rfl
  generalize H6 s i=L at hnext ⊢
  (refine es 30 ?_;simp (maxSteps:=2000000) only [d0,Dx,↓Ab,A5,Ad,Nat.reduceLT,Int.reduceLE,Int.reduceLT,Nat.reducePow,Nat.reduceAnd,Nat.reduceOr,Nat.reduceShiftRight,Int.reduceToNat,reduceCtorEq,Nat.reduceAdd,Nat.reduceMul,Nat.reduceSub,Nat.reduceBEq,Nat.reduceEqDiff,Nat.reduceLeDiff,Nat.reduceBneDiff,Nat.reduceBNe,↓reduceIte])
  refine Ag (σ:=Nat) (fun x=>x≤5) (fun x=>fr 146 [(1,.lst 1 24 (ws rc)),(2,.lst 1 25 (fun j=>.int .i64 (tv 24 j:Nat))),(3,.ptr 0 []),(6,.ptr 1 []),(7,.int .i64 i),(8,.ptr 2 []),(9,.ptr 3 []),(10,.int .i64 x)])
   (fun x=>[(0,.ar 1 25 (ws L)),(1,.ar 1 25 (fun _=>W 0)),(2,.ar 1 25 (fun j=>W (bq L x 0 j))),(3,.ar 1 25 (fun _=>W 0))]) (fun _=>4) (fun x=>5 - x) 0 Aa ?_ ?_
  ·refine Aj.fr [0,1,34,50] [] hx Ax Ak ?_ ?_
   ·simp only [A7,Nat.reduceLT,reduceCtorEq,Nat.reduceEqDiff,Nat.reduceLeDiff,Nat.reduceBEq]
   ·simp only [A7,Nat.reduceLT,reduceCtorEq,Nat.reduceEqDiff,Nat.reduceLeDiff,Nat.reduceBEq,W_0]
    exact fun j _=>by rw [bq,if_neg Aa]
  ·intro u hu
   by_cases h5:u=5
   ·subst h5
    have d1:decide (((5:Nat):Int) < 5)=false:=rfl
    (refine es 30 ?_;simp (maxSteps:=2000000) only [d1,Dx,↓Ab,A5,Ad,Nat.reduceLT,Int.reduceLE,Int.reduceLT,Nat.reducePow,Nat.reduceAnd,Nat.reduceOr,Nat.reduceShiftRight,Int.reduceToNat,reduceCtorEq,Nat.reduceAdd,Nat.reduceMul,Nat.reduceSub,Nat.reduceBEq,Nat.reduceEqDiff,Nat.reduceLeDiff,Nat.reduceBneDiff,Nat.reduceBNe,↓reduceIte])
    have hbt:∀ j,j < 25→bq L 5 0 j=Jm L 5 j:=fun j hj=>by rw [bq,if_pos Aa]
    refine Ag (σ:=Nat) (fun u=>u≤5) (fun u=>fr 146 [(1,.lst 1 24 (ws rc)),(2,.lst 1 25 (fun j=>.int .i64 (tv 24 j:Nat))),(3,.ptr 0 []),(6,.ptr 1 []),(7,.int .i64 i),(8,.ptr 2 []),(9,.ptr 3 []),(15,.int .i64 u)])
     (fun u=>[(0,.ar 1 25 (ws L)),(1,.ar 1 25 (fun _=>W 0)),(2,.ar 1 25 (fun j=>W (Jm L 5 j))),(3,.ar 1 25 (fun j=>W (cq L u 0 j)))]) (fun _=>4) (fun u=>5 - u) 0 Aa ?_ ?_
    ·refine Aj.fr [0,1,2,3] [] hx Ax Ak ?_ ?_
     ·simp only [A7,Nat.reduceLT,reduceCtorEq,Nat.reduceEqDiff,Nat.reduceLeDiff,Nat.reduceBEq]
     ·simp only [A7,Nat.reduceLT,reduceCtorEq,Nat.reduceEqDiff,Nat.reduceLeDiff,Nat.reduceBEq]
      exact ⟨hbt,fun j _=>by rw [cq,if_neg Aa]⟩
    ·intro u hu
     by_cases h5:u=5
     ·subst h5
      have d1:decide (((5:Nat):Int) < 5)=false:=rfl
      (refine es 30 ?_;simp (maxSteps:=2000000) only [d1,Dx,↓Ab,A5,Ad,Nat.reduceLT,Int.reduceLE,Int.reduceLT,Nat.reducePow,Nat.reduceAnd,Nat.reduceOr,Nat.reduceShiftRight,Int.reduceToNat,reduceCtorEq,Nat.reduceAdd,Nat.reduceMul,Nat.reduceSub,Nat.reduceBEq,Nat.reduceEqDiff,Nat.reduceLeDiff,Nat.reduceBneDiff,Nat.reduceBNe,↓reduceIte])
      have hC:∀ j,j < 25→cq L 5 0 j=(Kv (th L) 24).2.getD j 0:=fun j hj=>by
       have hs:=JC j hj
       rw [V8 _ (Q8 L) j hj,Sg _ _ hs,cq,if_pos Aa]
      generalize hCl:(Kv (th L) 24).2=C at hC
      refine Ag (σ:=Nat) (fun y=>y≤5) (fun y=>fr 146 [(1,.lst 1 24 (ws rc)),(2,.lst 1 25 (fun j=>.int .i64 (tv 24 j:Nat))),(3,.ptr 0 []),(6,.ptr 1 []),(7,.int .i64 i),(8,.ptr 2 []),(9,.ptr 3 []),(17,.int .i64 y)])
       (fun y=>[(0,.ar 1 25 (fun j=>W (aq L C (5 * y) j))),(1,.ar 1 25 (fun _=>W 0)),(2,.ar 1 25 (fun j=>W (Jm L 5 j))),(3,.ar 1 25 (ws C))]) (fun _=>4) (fun y=>5 - y) 0 Aa ?_ ?_
      ·refine Aj.fr [0,1,2,3] [] hx Ax Ak ?_ ?_
       ·simp only [A7,Nat.reduceLT,reduceCtorEq,Nat.reduceEqDiff,Nat.reduceLeDiff,Nat.reduceBEq]
       ·simp only [A7,Nat.reduceLT,reduceCtorEq,Nat.reduceEqDiff,Nat.reduceLeDiff,Nat.reduceBEq]
        exact ⟨fun j _=>by rw [aq,if_neg Aa],hC⟩
      ·intro y hy
       by_cases hy5:y=5
       ·subst hy5
        have d2:decide (((5:Nat):Int) < 5)=false:=rfl
        (refine es 30 ?_;simp (maxSteps:=2000000) only [d2,wi,Dx,↓Ab,A5,Ad,Nat.reduceLT,Int.reduceLE,Int.reduceLT,Nat.reducePow,Nat.reduceAnd,Nat.reduceOr,Nat.reduceShiftRight,Int.reduceToNat,reduceCtorEq,Nat.reduceAdd,Nat.reduceMul,Nat.reduceSub,Nat.reduceBEq,Nat.reduceEqDiff,Nat.reduceLeDiff,Nat.reduceBneDiff,Nat.reduceBNe,↓reduceIte])
        refine ⟨by omega,i + 1,by omega,by omega,?_⟩
        rw [hnext]
        refine Aj.fr [0,1] [] hx Ax Ak ?_ ?_
        ·simp only [A7,Nat.reduceLT,reduceCtorEq,Nat.reduceEqDiff,Nat.reduceLeDiff,Nat.reduceBEq]
        ·simp only [A7,Nat.reduceLT,reduceCtorEq,Nat.reduceEqDiff,Nat.reduceLeDiff,Nat.reduceBEq]
         intro j hj
         rw [R3 _ _ _ hj,hCl]
         unfold aq
         by_cases h0:j=0
         ·subst h0
          rw [if_pos rfl,if_pos rfl,if_pos Aa]
         ·rw [if_neg h0,if_neg h0,if_pos Aa]
       ·have d2:decide ((y:Int) < 5)=true:=decide_eq_true Aa
        have wy:IntKind.i64.wrap ((y:Int) + 1)=((y + 1:Nat):Int):=A9
        (refine es 30 ?_;simp (maxSteps:=2000000) only [d2,Dx,↓Ab,A5,Ad,Nat.reduceLT,Int.reduceLE,Int.reduceLT,Nat.reducePow,Nat.reduceAnd,Nat.reduceOr,Nat.reduceShiftRight,Int.reduceToNat,reduceCtorEq,Nat.reduceAdd,Nat.reduceMul,Nat.reduceSub,Nat.reduceBEq,Nat.reduceEqDiff,Nat.reduceLeDiff,Nat.reduceBneDiff,Nat.reduceBNe,↓reduceIte])
        refine Ag (σ:=Nat) (fun u=>u≤5) (fun u=>fr 146 [(1,.lst 1 24 (ws rc)),(2,.lst 1 25 (fun j=>.int .i64 (tv 24 j:Nat))),(3,.ptr 0 []),(6,.ptr 1 []),(7,.int .i64 i),(8,.ptr 2 []),(9,.ptr 3 []),(17,.int .i64 y),(18,.int .i64 u)])
         (fun u=>[(0,.ar 1 25 (fun j=>W (aq L C (5 * y + u) j))),(1,.ar 1 25 (fun _=>W 0)),(2,.ar 1 25 (fun j=>W (Jm L 5 j))),(3,.ar 1 25 (ws C))]) (fun _=>4) (fun u=>5 - u) 0 Aa ?_ ?_
        ·refine Aj.fr [0,1,2,3] [] hx Ax Ak ?_ ?_
         ·simp only [A7,Nat.reduceLT,reduceCtorEq,Nat.reduceEqDiff,Nat.reduceLeDiff,Nat.reduceBEq]
         ·simp only [A7,Nat.reduceLT,reduceCtorEq,Nat.reduceEqDiff,Nat.reduceLeDiff,Nat.reduceBEq]
          exact fun _ _=>rfl
        ·intro u hu
         by_cases hu5:u=5
         ·subst hu5
          have d3:decide (((5:Nat):Int) < 5)=false:=rfl
          (refine es 30 ?_;simp (maxSteps:=2000000) only [d3,wy,Dx,↓Ab,A5,Ad,Nat.reduceLT,Int.reduceLE,Int.reduceLT,Nat.reducePow,Nat.reduceAnd,Nat.reduceOr,Nat.reduceShiftRight,Int.reduceToNat,reduceCtorEq,Nat.reduceAdd,Nat.reduceMul,Nat.reduceSub,Nat.reduceBEq,Nat.reduceEqDiff,Nat.reduceLeDiff,Nat.reduceBneDiff,Nat.reduceBNe,↓reduceIte])
          refine ⟨y + 1,by omega,by omega,?_⟩
          refine Aj.fr [0,1,2,3] [] hx Ax Ak ?_ ?_
          ·simp only [A7,Nat.reduceLT,reduceCtorEq,Nat.reduceEqDiff,Nat.reduceLeDiff,Nat.reduceBEq]
          ·simp only [A7,Nat.reduceLT,reduceCtorEq,Nat.reduceEqDiff,Nat.reduceLeDiff,Nat.reduceBEq]
           exact fun _ _=>rfl
         ·have d3:decide ((u:Int) < 5)=true:=decide_eq_true Aa
          have w1:IntKind.i64.wrap ((u:Int) + 1)=((u + 1:Nat):Int):=A9
          have w2:IntKind.i64.wrap (5 * (y:Int))=((5 * y:Nat):Int):=A9
          have w3:IntKind.i64.wrap ((u:Int) + ((5 * y:Nat):Int))=((u + 5 * y:Nat):Int):=A9
          have w4:((u + 1:Nat):Int).tmod 5=(((u + 1) % 5:Nat):Int):=Ji
          have w5:IntKind.i64.wrap ((((u + 1) % 5:Nat):Int) + ((5 * y:Nat):Int))=(((u + 1) % 5 + 5 * y:Nat):Int):=A9
          have w6:IntKind.i64.wrap ((u:Int) + 2)=((u + 2:Nat):Int):=A9
          have w7:((u + 2:Nat):Int).tmod 5=(((u + 2) % 5:Nat):Int):=Ji
          have w8:IntKind.i64.wrap ((((u + 2) % 5:Nat):Int) + ((5 * y:Nat):Int))=(((u + 2) % 5 + 5 * y:Nat):Int):=A9
          (refine es 30 ?_;simp (maxSteps:=2000000) only [Wm,d3,w1,w2,w3,w4,w5,w6,w7,w8,Dx,↓Ab,A5,Ad,Nat.reduceLT,Int.reduceLE,Int.reduceLT,Nat.reducePow,Nat.reduceAnd,Nat.reduceOr,Nat.reduceShiftRight,Int.reduceToNat,reduceCtorEq,Nat.reduceAdd,Nat.reduceMul,Nat.reduceSub,Nat.reduceBEq,Nat.reduceEqDiff,Nat.reduceLeDiff,Nat.reduceBneDiff,Nat.reduceBNe,↓reduceIte])
          refine ⟨by omega,by omega,by omega,by omega,by omega,by omega,by omega,by omega,by omega,by omega,by omega,by omega,by omega,u + 1,by omega,by omega,?_⟩
          refine Aj.fr [0,1,2,3] [] hx Ax Ak ?_ ?_
          ·simp only [A7,Nat.reduceLT,reduceCtorEq,Nat.reduceEqDiff,Nat.reduceLeDiff,Nat.reduceBEq]
          ·simp only [A7,Nat.reduceLT,reduceCtorEq,Nat.reduceEqDiff,Nat.reduceLeDiff,Nat.reduceBEq]
           intro j hj
           by_cases h1:j=u + 5 * y
           ·subst h1
            have e1:(u + 5 * y) / 5=y:=Aa
            have e2:(u + 5 * y + 1) % 5=(u + 1) % 5:=Aa
            have e3:(u + 5 * y + 2) % 5=(u + 2) % 5:=Aa
            rw [if_pos rfl,aq,if_pos Aa,Gd,if_pos Aa,e1,e2,e3,BitVec.xor_allOnes,Nat.add_comm (5 * y),Nat.add_comm (5 * y)]
           ·rw [if_neg h1]
            unfold aq
            by_cases h2:j < 5 * y + u
            ·rw [if_pos h2,if_pos Aa]
            ·rw [if_neg h2,if_neg Aa]
     ·have d1:decide ((u:Int) < 5)=true:=decide_eq_true Aa
      have wu:IntKind.i64.wrap ((u:Int) + 1)=((u + 1:Nat):Int):=A9
      (refine es 30 ?_;simp (maxSteps:=2000000) only [d1,Dx,↓Ab,A5,Ad,Nat.reduceLT,Int.reduceLE,Int.reduceLT,Nat.reducePow,Nat.reduceAnd,Nat.reduceOr,Nat.reduceShiftRight,Int.reduceToNat,reduceCtorEq,Nat.reduceAdd,Nat.reduceMul,Nat.reduceSub,Nat.reduceBEq,Nat.reduceEqDiff,Nat.reduceLeDiff,Nat.reduceBneDiff,Nat.reduceBNe,↓reduceIte])
      refine Ag (σ:=Nat) (fun y=>y≤5) (fun y=>fr 146 [(1,.lst 1 24 (ws rc)),(2,.lst 1 25 (fun j=>.int .i64 (tv 24 j:Nat))),(3,.ptr 0 []),(6,.ptr 1 []),(7,.int .i64 i),(8,.ptr 2 []),(9,.ptr 3 []),(15,.int .i64 u),(16,.int .i64 y)])
       (fun y=>[(0,.ar 1 25 (ws L)),(1,.ar 1 25 (fun _=>W 0)),(2,.ar 1 25 (fun j=>W (Jm L 5 j))),(3,.ar 1 25 (fun j=>W (cq L u y j)))]) (fun _=>4) (fun y=>5 - y) 0 Aa ?_ ?_
      ·refine Aj.fr [0,1,2,3] [] hx Ax Ak ?_ ?_
       ·simp only [A7,Nat.reduceLT,reduceCtorEq,Nat.reduceEqDiff,Nat.reduceLeDiff,Nat.reduceBEq]
       ·simp only [A7,Nat.reduceLT,reduceCtorEq,Nat.reduceEqDiff,Nat.reduceLeDiff,Nat.reduceBEq]
      ·intro y hy
       by_cases hy5:y=5
       ·subst hy5
        have d2:decide (((5:Nat):Int) < 5)=false:=rfl
        (refine es 30 ?_;simp (maxSteps:=2000000) only [d2,wu,Dx,↓Ab,A5,Ad,Nat.reduceLT,Int.reduceLE,Int.reduceLT,Nat.reducePow,Nat.reduceAnd,Nat.reduceOr,Nat.reduceShiftRight,Int.reduceToNat,reduceCtorEq,Nat.reduceAdd,Nat.reduceMul,Nat.reduceSub,Nat.reduceBEq,Nat.reduceEqDiff,Nat.reduceLeDiff,Nat.reduceBneDiff,Nat.reduceBNe,↓reduceIte])
        refine ⟨u + 1,by omega,by omega,?_⟩
        refine Aj.fr [0,1,2,3] [] hx Ax Ak ?_ ?_
        ·simp only [A7,Nat.reduceLT,reduceCtorEq,Nat.reduceEqDiff,Nat.reduceLeDiff,Nat.reduceBEq]
        ·simp only [A7,Nat.reduceLT,reduceCtorEq,Nat.reduceEqDiff,Nat.reduceLeDiff,Nat.reduceBEq]
         intro j hj
         have hs:=JC j hj
         unfold cq
         by_cases h1:F8.getD j 0 % 5 < u ∨ (F8.getD j 0 % 5=u∧F8.getD j 0 / 5 < 5)
         ·rw [if_pos h1,if_pos Aa]
         ·rw [if_neg h1,if_neg Aa]
       ·have d2:decide ((y:Int) < 5)=true:=decide_eq_true Aa
        have w1:IntKind.i64.wrap ((y:Int) + 1)=((y + 1:Nat):Int):=A9
        have w2:IntKind.i64.wrap (5 * (y:Int))=((5 * y:Nat):Int):=A9
        have w3:IntKind.i64.wrap ((u:Int) + ((5 * y:Nat):Int))=((u + 5 * y:Nat):Int):=A9
        have w4:IntKind.i64.wrap (2 * (u:Int))=((2 * u:Nat):Int):=A9
        have w5:IntKind.i64.wrap (3 * (y:Int))=((3 * y:Nat):Int):=A9
        have w6:IntKind.i64.wrap (((2 * u:Nat):Int) + ((3 * y:Nat):Int))=((2 * u + 3 * y:Nat):Int):=A9
        have w7:((2 * u + 3 * y:Nat):Int).tmod 5=(((2 * u + 3 * y) % 5:Nat):Int):=Ji
        have w8:IntKind.i64.wrap (5 * (((2 * u + 3 * y) % 5:Nat):Int))=((5 * ((2 * u + 3 * y) % 5):Nat):Int):=A9
        have w9:IntKind.i64.wrap ((y:Int) + ((5 * ((2 * u + 3 * y) % 5):Nat):Int))=((y + 5 * ((2 * u + 3 * y) % 5):Nat):Int):=A9
        (refine es 30 ?_;simp (maxSteps:=2000000) only [d2,w1,w2,w3,w4,w5,w6,w7,w8,w9,Dx,↓Ab,A5,Ad,Nat.reduceLT,Int.reduceLE,Int.reduceLT,Nat.reducePow,Nat.reduceAnd,Nat.reduceOr,Nat.reduceShiftRight,Int.reduceToNat,reduceCtorEq,Nat.reduceAdd,Nat.reduceMul,Nat.reduceSub,Nat.reduceBEq,Nat.reduceEqDiff,Nat.reduceLeDiff,Nat.reduceBneDiff,Nat.reduceBNe,↓reduceIte])
        refine ⟨by omega,by omega,by omega,by omega,_,_,AB (Mf ok _ _ (Al8 (u + 5 * y) Aa)) ⟨rfl,rfl,trivial⟩ rfl ⟨rfl,rfl⟩,?_⟩
        simp only [Dx,↓Ab,A5,Ad,Nat.reduceLT,Int.reduceLE,Int.reduceLT,Nat.reducePow,Nat.reduceAnd,Nat.reduceOr,Nat.reduceShiftRight,Int.reduceToNat,reduceCtorEq,Nat.reduceAdd,Nat.reduceMul,Nat.reduceSub,Nat.reduceBEq,Nat.reduceEqDiff,Nat.reduceLeDiff,Nat.reduceBneDiff,Nat.reduceBNe,↓reduceIte]
        refine ⟨by omega,by omega,by omega,y + 1,by omega,by omega,?_⟩
        refine Aj.fr [0,1,2,3] [] hx Ax Ak ?_ ?_
        ·simp only [A7,Nat.reduceLT,reduceCtorEq,Nat.reduceEqDiff,Nat.reduceLeDiff,Nat.reduceBEq]
        ·simp only [A7,Nat.reduceLT,reduceCtorEq,Nat.reduceEqDiff,Nat.reduceLeDiff,Nat.reduceBEq]
         intro j hj
         have hs:=JC j hj
         have hsa:=Afu u Aa y Aa j hj
         by_cases h1:j=y + 5 * ((2 * u + 3 * y) % 5)
         ·have h2:=hsa.mp h1
          rw [if_pos h1,cq,if_pos Aa,Ai7 j hj,h2]
         ·have h2:F8.getD j 0 ≠ u + 5 * y:=fun h=>h1 (hsa.mpr h)
          rw [if_neg h1]
          unfold cq
          by_cases h3:F8.getD j 0 % 5 < u ∨ (F8.getD j 0 % 5=u∧F8.getD j 0 / 5 < y)
          ·rw [if_pos h3,if_pos Aa]
          ·rw [if_neg h3,if_neg Aa]
   ·have d1:decide ((u:Int) < 5)=true:=decide_eq_true Aa
    have wu:IntKind.i64.wrap ((u:Int) + 1)=((u + 1:Nat):Int):=A9
    (refine es 30 ?_;simp (maxSteps:=2000000) only [d1,Dx,↓Ab,A5,Ad,Nat.reduceLT,Int.reduceLE,Int.reduceLT,Nat.reducePow,Nat.reduceAnd,Nat.reduceOr,Nat.reduceShiftRight,Int.reduceToNat,reduceCtorEq,Nat.reduceAdd,Nat.reduceMul,Nat.reduceSub,Nat.reduceBEq,Nat.reduceEqDiff,Nat.reduceLeDiff,Nat.reduceBneDiff,Nat.reduceBNe,↓reduceIte])
    refine Ag (σ:=Nat) (fun y=>y≤5) (fun y=>fr 146 [(1,.lst 1 24 (ws rc)),(2,.lst 1 25 (fun j=>.int .i64 (tv 24 j:Nat))),(3,.ptr 0 []),(6,.ptr 1 []),(7,.int .i64 i),(8,.ptr 2 []),(9,.ptr 3 []),(10,.int .i64 u),(11,W (mq L ((u + 4) % 5) y)),(12,W (mq L ((u + 1) % 5) y)),(13,.int .i64 (5 * y:Nat))])
     (fun y=>[(0,.ar 1 25 (ws L)),(1,.ar 1 25 (fun _=>W 0)),(2,.ar 1 25 (fun j=>W (bq L u 0 j))),(3,.ar 1 25 (fun _=>W 0))]) (fun _=>4) (fun y=>5 - y) 0 Aa ?_ ?_
    ·refine Aj.fr [0,1,2,3] [] hx Ax Ak ?_ ?_
     ·simp only [A7,Nat.reduceLT,reduceCtorEq,Nat.reduceEqDiff,Nat.reduceLeDiff,Nat.reduceBEq,W_0,mq]
      rfl
     ·simp only [A7,Nat.reduceLT,reduceCtorEq,Nat.reduceEqDiff,Nat.reduceLeDiff,Nat.reduceBEq]
    ·intro y hy
     by_cases hy5:y=5
     ·subst hy5
      have d2:decide (((5 * 5:Nat):Int) < 25)=false:=rfl
      (refine es 30 ?_;simp (maxSteps:=2000000) only [d2,Dx,↓Ab,A5,Ad,Nat.reduceLT,Int.reduceLE,Int.reduceLT,Nat.reducePow,Nat.reduceAnd,Nat.reduceOr,Nat.reduceShiftRight,Int.reduceToNat,reduceCtorEq,Nat.reduceAdd,Nat.reduceMul,Nat.reduceSub,Nat.reduceBEq,Nat.reduceEqDiff,Nat.reduceLeDiff,Nat.reduceBneDiff,Nat.reduceBNe,↓reduceIte])
      refine Ag (σ:=Nat) (fun y=>y≤5) (fun y=>fr 146 [(1,.lst 1 24 (ws rc)),(2,.lst 1 25 (fun j=>.int .i64 (tv 24 j:Nat))),(3,.ptr 0 []),(6,.ptr 1 []),(7,.int .i64 i),(8,.ptr 2 []),(9,.ptr 3 []),(10,.int .i64 u),(11,W (par L ((u + 4) % 5))),(12,W (par L ((u + 1) % 5))),(14,.int .i64 (5 * y:Nat))])
       (fun y=>[(0,.ar 1 25 (ws L)),(1,.ar 1 25 (fun _=>W 0)),(2,.ar 1 25 (fun j=>W (bq L u y j))),(3,.ar 1 25 (fun _=>W 0))]) (fun _=>4) (fun y=>5 - y) 0 Aa ?_ ?_
      ·refine Aj.fr [0,1,2,3] [] hx Ax Ak ?_ ?_
       ·simp only [A7,Nat.reduceLT,reduceCtorEq,Nat.reduceEqDiff,Nat.reduceLeDiff,Nat.reduceBEq,Am0]
        rfl
       ·simp only [A7,Nat.reduceLT,reduceCtorEq,Nat.reduceEqDiff,Nat.reduceLeDiff,Nat.reduceBEq]
      ·intro y hy
       by_cases hy5:y=5
       ·subst hy5
        have d2:decide (((5 * 5:Nat):Int) < 25)=false:=rfl
        (refine es 30 ?_;simp (maxSteps:=2000000) only [d2,wu,Dx,↓Ab,A5,Ad,Nat.reduceLT,Int.reduceLE,Int.reduceLT,Nat.reducePow,Nat.reduceAnd,Nat.reduceOr,Nat.reduceShiftRight,Int.reduceToNat,reduceCtorEq,Nat.reduceAdd,Nat.reduceMul,Nat.reduceSub,Nat.reduceBEq,Nat.reduceEqDiff,Nat.reduceLeDiff,Nat.reduceBneDiff,Nat.reduceBNe,↓reduceIte])
        refine ⟨u + 1,by omega,by omega,?_⟩
        refine Aj.fr [0,1,2,3] [] hx Ax Ak ?_ ?_
        ·simp only [A7,Nat.reduceLT,reduceCtorEq,Nat.reduceEqDiff,Nat.reduceLeDiff,Nat.reduceBEq]
        ·simp only [A7,Nat.reduceLT,reduceCtorEq,Nat.reduceEqDiff,Nat.reduceLeDiff,Nat.reduceBEq]
         intro j hj
         unfold bq
         by_cases h1:j % 5 < u ∨ (j % 5=u∧j / 5 < 5)
         ·rw [if_pos h1,if_pos Aa]
         ·rw [if_neg h1,if_neg Aa]
       ·have d2:decide (((5 * y:Nat):Int) < 25)=true:=decide_eq_true Aa
        have w1:IntKind.i64.wrap (((5 * y:Nat):Int) + 5)=((5 * (y + 1):Nat):Int):=A9
        have w2:IntKind.i64.wrap ((u:Int) + ((5 * y:Nat):Int))=((u + 5 * y:Nat):Int):=A9
        (refine es 30 ?_;simp (maxSteps:=2000000) only [d2,w1,w2,Dx,↓Ab,A5,Ad,Nat.reduceLT,Int.reduceLE,Int.reduceLT,Nat.reducePow,Nat.reduceAnd,Nat.reduceOr,Nat.reduceShiftRight,Int.reduceToNat,reduceCtorEq,Nat.reduceAdd,Nat.reduceMul,Nat.reduceSub,Nat.reduceBEq,Nat.reduceEqDiff,Nat.reduceLeDiff,Nat.reduceBneDiff,Nat.reduceBNe,↓reduceIte])
        refine ⟨_,_,AB (Mf ok _ 1 Aa) ⟨rfl,rfl,trivial⟩ rfl ⟨rfl,rfl⟩,?_⟩
        simp only [Dx,↓Ab,A5,Ad,Nat.reduceLT,Int.reduceLE,Int.reduceLT,Nat.reducePow,Nat.reduceAnd,Nat.reduceOr,Nat.reduceShiftRight,Int.reduceToNat,reduceCtorEq,Nat.reduceAdd,Nat.reduceMul,Nat.reduceSub,Nat.reduceBEq,Nat.reduceEqDiff,Nat.reduceLeDiff,Nat.reduceBneDiff,Nat.reduceBNe,↓reduceIte]
        refine ⟨by omega,by omega,by omega,by omega,by omega,y + 1,by omega,by omega,?_⟩
        refine Aj.fr [0,1,2,3] [] hx Ax Ak ?_ ?_
        ·simp only [A7,Nat.reduceLT,reduceCtorEq,Nat.reduceEqDiff,Nat.reduceLeDiff,Nat.reduceBEq]
        ·simp only [A7,Nat.reduceLT,reduceCtorEq,Nat.reduceEqDiff,Nat.reduceLeDiff,Nat.reduceBEq]
         intro j hj
         by_cases h1:j=u + 5 * y
         ·subst h1
          have hm:(u + 5 * y) % 5=u:=Aa
          rw [if_pos rfl,bq,if_pos Aa,Jm,if_pos Aa,QJ,hm,BitVec.xor_assoc]
         ·rw [if_neg h1]
          unfold bq
          by_cases h2:j % 5 < u ∨ (j % 5=u∧j / 5 < y)
          ·rw [if_pos h2,if_pos Aa]
          ·rw [if_neg h2,if_neg Aa]
     ·have d2:decide (((5 * y:Nat):Int) < 25)=true:=decide_eq_true Aa
      have w1:IntKind.i64.wrap (((5 * y:Nat):Int) + 5)=((5 * (y + 1):Nat):Int):=A9
      have w2:IntKind.i64.wrap ((u:Int) + 4)=((u + 4:Nat):Int):=A9
      have w3:((u + 4:Nat):Int).tmod 5=(((u + 4) % 5:Nat):Int):=Ji
      have w4:((u + 1:Nat):Int).tmod 5=(((u + 1) % 5:Nat):Int):=Ji
      have w5:IntKind.i64.wrap ((((u + 4) % 5:Nat):Int) + ((5 * y:Nat):Int))=(((u + 4) % 5 + 5 * y:Nat):Int):=A9
      have w6:IntKind.i64.wrap ((((u + 1) % 5:Nat):Int) + ((5 * y:Nat):Int))=(((u + 1) % 5 + 5 * y:Nat):Int):=A9
      (refine es 30 ?_;simp (maxSteps:=2000000) only [d2,w1,w2,w3,w4,w5,w6,wu,Dx,↓Ab,A5,Ad,Nat.reduceLT,Int.reduceLE,Int.reduceLT,Nat.reducePow,Nat.reduceAnd,Nat.reduceOr,Nat.reduceShiftRight,Int.reduceToNat,reduceCtorEq,Nat.reduceAdd,Nat.reduceMul,Nat.reduceSub,Nat.reduceBEq,Nat.reduceEqDiff,Nat.reduceLeDiff,Nat.reduceBneDiff,Nat.reduceBNe,↓reduceIte])
      refine ⟨by omega,by omega,by omega,by omega,by omega,by omega,y + 1,by omega,by omega,?_⟩
      refine Aj.fr [0,1,2,3] [] hx Ax Ak ?_ ?_
      ·simp only [A7,Nat.reduceLT,reduceCtorEq,Nat.reduceEqDiff,Nat.reduceLeDiff,Nat.reduceBEq]
       exact ⟨rfl,rfl⟩
      ·simp only [A7,Nat.reduceLT,reduceCtorEq,Nat.reduceEqDiff,Nat.reduceLeDiff,Nat.reduceBEq]
def pd (p:Nat→BitVec 8) (j:Nat):BitVec 8:=if j < 64 then p j else if j=64 then 1 else if j=135 then 128 else 0
def p1 (p:Nat→BitVec 8) (j:Nat):BitVec 8:=if j < 64 then p j else if j=64 then 1 else 0
abbrev sQ (p:Nat→BitVec 8):V→Hp→Nat→Prop:=fun r H' k'=>r=dg (Qf (HL (List.replicate 25 0) (pd p)))∧H'=[]∧k'=0
theorem CC {M:Seat} (ok:OkB M) (p:Nat→BitVec 8) :
 Af M 311 [.lst 1 64 (fun j=>B (p j))] [] 0 (sQ p):=by
 refine Ac ok.k311 rfl fun x hx=>?_
 refine es 30 ?_
 simp only [Ahf,Alx,Dx,↓Ab,A5,Ad,Nat.reduceLT,Int.reduceLE,Int.reduceLT,Nat.reducePow,Nat.reduceAnd,Nat.reduceOr,Nat.reduceShiftRight,Int.reduceToNat,reduceCtorEq,Nat.reduceAdd,Nat.reduceMul,Nat.reduceSub,Nat.reduceBEq,Nat.reduceEqDiff,Nat.reduceLeDiff,Nat.reduceBneDiff,Nat.reduceBNe,↓reduceIte]
 refine B3 (KW ok) False [] [] List.nodup_nil Bu rfl Bu trivial trivial ?_
 rintro r H' k' ⟨rfl,rfl,rfl⟩
 refine ⟨⟨by omega,fun h=>h.elim⟩,?_⟩
 have hnum:Bc [] 16 1=[16]:=rfl
 simp only [hnum,LN,V.ren,AQ,A4,BO,D3,YE,List.append_nil,Vl,ne_eq,CD,Nat.reduceEqDiff,reduceCtorEq]
 refine B3 (R5 ok) False [] [] List.nodup_nil Bu rfl Bu trivial trivial ?_
 rintro r H' k' ⟨rfl,rfl,rfl⟩
 refine ⟨⟨by omega,fun h=>h.elim⟩,?_⟩
 have hnum2:Bc [] 32 1=[32]:=rfl
 simp only [hnum2,LN,V.ren,AQ,A4,BO,D3,YE,List.append_nil,Vl,ne_eq,CD,Nat.reduceEqDiff,reduceCtorEq]
 simp (maxSteps:=2000000) only [Dx,↓Ab,A5,Ad,Nat.reduceLT,Int.reduceLE,Int.reduceLT,Nat.reducePow,Nat.reduceAnd,Nat.reduceOr,Nat.reduceShiftRight,Int.reduceToNat,reduceCtorEq,Nat.reduceAdd,Nat.reduceMul,Nat.reduceSub,Nat.reduceBEq,Nat.reduceEqDiff,Nat.reduceLeDiff,Nat.reduceBneDiff,Nat.reduceBNe,↓reduceIte]
 refine Ag (σ:=Nat) (fun n=>65≤n∧n≤136) (fun n=>fr 83 [(2,.ptr 0 []),(3,.sl 1 [] 0 24 1),(4,.sl 2 [] 0 25 1),(5,.sl 3 [] 0 n 1)])
  (fun n=>[(0,.ar 1 32 (fun _=>B 0)),(1,.ar 1 24 (ws rc)),(2,.ar 1 25 (fun j=>.int .i64 (tv 24 j:Nat))),(3,.ar 1 n (fun j=>B (p1 p j)))]) (fun _=>4) (fun n=>136 - n) 65 Aa ?_ ?_
 ·refine Aj.fr [0,16,32,176] [] hx Ax Ak ?_ ?_
  ·simp only [A7,Nat.reduceLT,reduceCtorEq,Nat.reduceEqDiff,Nat.reduceLeDiff,Nat.reduceBEq]
  ·simp only [A7,Nat.reduceLT,reduceCtorEq,Nat.reduceEqDiff,Nat.reduceLeDiff,Nat.reduceBEq,B_0]
   intro i hi
   by_cases h1:i < 64
   ·rw [if_pos h1,if_neg Aa,p1,if_pos h1]
    exact (Gv _ _ _ _ _).mpr rfl
   ·have:i=64:=Aa
    subst this
    rw [if_neg Aa,if_pos Aa]
    exact (Gv _ _ _ 1 1).mpr rfl
 ·intro n ⟨hn,hn2⟩
  by_cases h136:n=136
  ·subst h136
   have d0:Int.tmod 136 136=0:=rfl
   have d1:decide ((0:Int)=0)=true:=rfl
   have w0:IntKind.i64.wrap (136 - 1)=135:=rfl
   have b128:V.int .u8 128=B 128:=rfl
   have hp:∀ j,(if j=135 then p1 p 135 ^^^ 128 else p1 p j)=pd p j:=by
    intro j
    unfold p1 pd
    by_cases h1:j=135
    ·subst h1;simp
    ·rw [if_neg h1,if_neg h1]
   (refine es 5 ?_;simp (maxSteps:=2000000) only [d0,d1,Dx,↓Ab,A5,Ad,Nat.reduceLT,Int.reduceLE,Int.reduceLT,Nat.reducePow,Nat.reduceAnd,Nat.reduceOr,Nat.reduceShiftRight,Int.reduceToNat,reduceCtorEq,Nat.reduceAdd,Nat.reduceMul,Nat.reduceSub,Nat.reduceBEq,Nat.reduceEqDiff,Nat.reduceLeDiff,Nat.reduceBneDiff,Nat.reduceBNe,↓reduceIte])
   refine ⟨by omega,?_⟩
   (refine es 30 ?_;simp (maxSteps:=2000000) only [d0,d1,w0,b128,hp,Dx,↓Ab,A5,Ad,Nat.reduceLT,Int.reduceLE,Int.reduceLT,Nat.reducePow,Nat.reduceAnd,Nat.reduceOr,Nat.reduceShiftRight,Int.reduceToNat,reduceCtorEq,Nat.reduceAdd,Nat.reduceMul,Nat.reduceSub,Nat.reduceBEq,Nat.reduceEqDiff,Nat.reduceLeDiff,Nat.reduceBneDiff,Nat.reduceBNe,↓reduceIte])
   refine Ag (σ:=Nat) (fun r=>r≤1) (fun r=>fr 83 [(2,.ptr 0 []),(3,.sl 1 [] 0 24 1),(4,.sl 2 [] 0 25 1),(5,.sl 3 [] 0 136 1),(6,.ptr 4 []),(7,.int .i64 (136 * r:Nat))])
    (fun r=>[(0,.ar 1 32 (fun _=>B 0)),(1,.ar 1 24 (ws rc)),(2,.ar 1 25 (fun j=>.int .i64 (tv 24 j:Nat))),(3,.ar 1 136 (fun j=>B (pd p j))),(4,.ar 1 25 (ws (if r=0 then List.replicate 25 0 else HL (List.replicate 25 0) (pd p))))]) (fun _=>5) (fun r=>1 - r) 0 Aa ?_ ?_
   ·refine Aj.fr [0,1,2,3,212] [] hx Ax Ak ?_ ?_
    ·simp only [A7,Nat.reduceLT,reduceCtorEq,Nat.reduceEqDiff,Nat.reduceLeDiff,Nat.reduceBEq]
     rfl
    ·simp only [A7,Nat.reduceLT,reduceCtorEq,Nat.reduceEqDiff,Nat.reduceLeDiff,Nat.reduceBEq,W_0]
     intro j hj
     rw [List.getD,List.getElem?_replicate,if_pos hj];rfl
   ·intro r hr
    by_cases h1:r=1
    ·subst h1
     have d2:decide (((136 * 1:Nat):Int) < 136)=false:=rfl
     (refine es 30 ?_;simp (maxSteps:=2000000) only [d2,if_neg (Nat.one_ne_zero),Dx,↓Ab,A5,Ad,Nat.reduceLT,Int.reduceLE,Int.reduceLT,Nat.reducePow,Nat.reduceAnd,Nat.reduceOr,Nat.reduceShiftRight,Int.reduceToNat,reduceCtorEq,Nat.reduceAdd,Nat.reduceMul,Nat.reduceSub,Nat.reduceBEq,Nat.reduceEqDiff,Nat.reduceLeDiff,Nat.reduceBneDiff,Nat.reduceBNe,↓reduceIte])
     generalize hS:HL (List.replicate 25 0) (pd p)=S
     refine Ag (σ:=Nat) (fun i=>i≤32) (fun i=>fr 83 [(2,.ptr 2 []),(9,.ptr 0 []),(6,.ptr 1 []),(10,.int .i64 i)])
      (fun i=>[(0,.ar 1 32 (fun j=>B (if j < i then (Qf S).at j else 0))),(1,.ar 1 25 (ws S)),(2,.ar 1 32 (fun _=>B 0))]) (fun _=>3) (fun i=>32 - i) 0 Aa ?_ ?_
     ·refine Aj.fr [69,4,0] [] hx Ax Ak ?_ ?_
      ·simp only [A7,Nat.reduceLT,reduceCtorEq,Nat.reduceEqDiff,Nat.reduceLeDiff,Nat.reduceBEq]
      ·simp only [A7,Nat.reduceLT,reduceCtorEq,Nat.reduceEqDiff,Nat.reduceLeDiff,Nat.reduceBEq,B_0]
       exact fun _ _=>by rw [if_neg Aa]
     ·intro i hi
      by_cases h32:i=32
      ·subst h32
       have d3:decide (((32:Nat):Int) < 32)=false:=rfl
       (refine es 30 ?_;simp (maxSteps:=2000000) only [d3,Dx,↓Ab,A5,Ad,Nat.reduceLT,Int.reduceLE,Int.reduceLT,Nat.reducePow,Nat.reduceAnd,Nat.reduceOr,Nat.reduceShiftRight,Int.reduceToNat,reduceCtorEq,Nat.reduceAdd,Nat.reduceMul,Nat.reduceSub,Nat.reduceBEq,Nat.reduceEqDiff,Nat.reduceLeDiff,Nat.reduceBneDiff,Nat.reduceBNe,↓reduceIte])
       refine Aq.mk hx [] [] (dg (Qf S)) [] 0 Ak ?_ ?_ trivial ?_
       rotate_left 2
       ·exact ⟨by rw [hS],rfl,rfl⟩
       ·simp only [Lc,↓Ab,ex,Ro,AC,A5,Ad,Nat.reduceLT,Int.reduceLE,Int.reduceLT,Nat.reducePow,Nat.reduceAnd,Nat.reduceOr,Nat.reduceShiftRight,Int.reduceToNat,reduceCtorEq,Nat.reduceAdd,Nat.reduceMul,Nat.reduceSub,Nat.reduceBEq,Nat.reduceEqDiff]
       ·simp only [Lb,↓Ab,ex,Ro,AC,A5,Ad,Nat.reduceLT,Int.reduceLE,Int.reduceLT,Nat.reducePow,Nat.reduceAnd,Nat.reduceOr,Nat.reduceShiftRight,Int.reduceToNat,reduceCtorEq,Nat.reduceAdd,Nat.reduceMul,Nat.reduceSub,Nat.reduceBEq,Nat.reduceEqDiff,Nat.reduceLeDiff]
        intro j hj
        rw [if_pos hj]
      ·have d3:decide ((i:Int) < 32)=true:=decide_eq_true Aa
       have w1:IntKind.i64.wrap ((i:Int) + 1)=((i + 1:Nat):Int):=A9
       have w2:IntKind.i64.wrap ((i:Int).tdiv 8)=((i / 8:Nat):Int):=Z1
       have w4:(i:Int).tmod 8=((i % 8:Nat):Int):=Ji
       have w5:IntKind.i64.wrap (8 * ((i % 8:Nat):Int))=((8 * (i % 8):Nat):Int):=A9
       have w6:IntKind.u64.wrap ((8 * (i % 8):Nat):Int)=((8 * (i % 8):Nat):Int):=Cy Aa
       (refine es 30 ?_;simp (maxSteps:=2000000) only [d3,w1,w2,w4,w5,w6,Dx,↓Ab,A5,Ad,Nat.reduceLT,Int.reduceLE,Int.reduceLT,Nat.reducePow,Nat.reduceAnd,Nat.reduceOr,Nat.reduceShiftRight,Int.reduceToNat,reduceCtorEq,Nat.reduceAdd,Nat.reduceMul,Nat.reduceSub,Nat.reduceBEq,Nat.reduceEqDiff,Nat.reduceLeDiff,Nat.reduceBneDiff,Nat.reduceBNe,↓reduceIte])
       refine ⟨by omega,⟨by omega,by omega⟩,by omega,by omega,by omega,⟨by omega,by omega⟩,by omega,i + 1,by omega,by omega,?_⟩
       refine Aj.fr [0,1,2] [] hx Ax Ak ?_ ?_
       ·simp only [A7,Nat.reduceLT,reduceCtorEq,Nat.reduceEqDiff,Nat.reduceLeDiff,Nat.reduceBEq]
       ·simp only [A7,Nat.reduceLT,reduceCtorEq,Nat.reduceEqDiff,Nat.reduceLeDiff,Nat.reduceBEq]
        intro j hj
        by_cases hji:j=i
        ·subst hji
         rw [if_pos rfl,if_pos Aa,Qf,Dg.at_mk' _ _ hj]
        ·rw [if_neg hji]
         by_cases h2:j < i
         ·rw [if_pos h2,if_pos Aa]
         ·rw [if_neg h2,if_neg Aa]
    ·have h0:r=0:=Aa
     subst h0
     have d2:decide (((136 * 0:Nat):Int) < 136)=true:=rfl
     (refine es 30 ?_;simp (maxSteps:=2000000) only [d2,Dx,↓Ab,A5,Ad,Nat.reduceLT,Int.reduceLE,Int.reduceLT,Nat.reducePow,Nat.reduceAnd,Nat.reduceOr,Nat.reduceShiftRight,Int.reduceToNat,reduceCtorEq,Nat.reduceAdd,Nat.reduceMul,Nat.reduceSub,Nat.reduceBEq,Nat.reduceEqDiff,Nat.reduceLeDiff,Nat.reduceBneDiff,Nat.reduceBNe,↓reduceIte])
     refine Ag (σ:=Nat) (fun i=>i≤136) (fun i=>fr 83 [(2,.ptr 0 []),(3,.sl 1 [] 0 24 1),(4,.sl 2 [] 0 25 1),(5,.sl 3 [] 0 136 1),(6,.ptr 4 []),(7,.int .i64 0),(8,.int .i64 i)])
      (fun i=>[(0,.ar 1 32 (fun _=>B 0)),(1,.ar 1 24 (ws rc)),(2,.ar 1 25 (fun j=>.int .i64 (tv 24 j:Nat))),(3,.ar 1 136 (fun j=>B (pd p j))),(4,.ar 1 25 (fun j=>W (Oc (List.replicate 25 0) (pd p) (i / 8) (i % 8) j)))]) (fun _=>5) (fun i=>136 - i) 0 Aa ?_ ?_
     ·refine Aj.fr [0,1,2,3,4] [] hx Ax Ak ?_ ?_
      ·simp only [A7,Nat.reduceLT,reduceCtorEq,Nat.reduceEqDiff,Nat.reduceLeDiff,Nat.reduceBEq]
      ·simp only [A7,Nat.reduceLT,reduceCtorEq,Nat.reduceEqDiff,Nat.reduceLeDiff,Nat.reduceBEq]
       exact fun j _=>by rw [Nat.zero_div,Nat.zero_mod,Adg]
     ·intro i hi
      by_cases h136:i=136
      ·subst h136
       have d3:decide (((136:Nat):Int) < 136)=false:=rfl
       (refine es 30 ?_;simp (maxSteps:=2000000) only [d3,Dx,↓Ab,A5,Ad,Nat.reduceLT,Int.reduceLE,Int.reduceLT,Nat.reducePow,Nat.reduceAnd,Nat.reduceOr,Nat.reduceShiftRight,Int.reduceToNat,reduceCtorEq,Nat.reduceAdd,Nat.reduceMul,Nat.reduceSub,Nat.reduceBEq,Nat.reduceEqDiff,Nat.reduceLeDiff,Nat.reduceBneDiff,Nat.reduceBNe,↓reduceIte])
       have w136:IntKind.i64.wrap (0 + 136)=((136 * 1:Nat):Int):=rfl
       refine K1 [1,2] (NA ok (mix (List.replicate 25 0) (pd p))) ?_ rfl (by simp only [AD,Jf,W,implies_true]) ?_
       ·simp only [A7,Nat.reduceLT,reduceCtorEq,Nat.reduceEqDiff,Nat.reduceLeDiff,Nat.reduceBEq]
        exact fun j hj=>(Rl _ _ _ hj).symm
       simp only [w136,Dx,↓Ab,A5,Ad,Nat.reduceLT,Int.reduceLE,Int.reduceLT,Nat.reducePow,Nat.reduceAnd,Nat.reduceOr,Nat.reduceShiftRight,Int.reduceToNat,reduceCtorEq,Nat.reduceAdd,Nat.reduceMul,Nat.reduceSub,Nat.reduceBEq,Nat.reduceEqDiff,Nat.reduceLeDiff,Nat.reduceBneDiff,Nat.reduceBNe,↓reduceIte]
       refine ⟨1,by omega,by omega,?_⟩
       refine Aj.fr [0,1,2,3,4] [] hx Ax Ak ?_ ?_
       ·simp only [A7,Nat.reduceLT,reduceCtorEq,Nat.reduceEqDiff,Nat.reduceLeDiff,Nat.reduceBEq]
        rfl
       ·simp only [A7,Nat.reduceLT,reduceCtorEq,Nat.reduceEqDiff,Nat.reduceLeDiff,Nat.reduceBEq,if_neg (Nat.one_ne_zero)]
        exact fun _ _=>rfl
      ·have d3:decide ((i:Int) < 136)=true:=decide_eq_true Aa
       have w1:IntKind.i64.wrap ((i:Int) + 1)=((i + 1:Nat):Int):=A9
       have w2:IntKind.i64.wrap ((i:Int).tdiv 8)=((i / 8:Nat):Int):=Z1
       have w3:IntKind.i64.wrap (0 + (i:Int))=(i:Int):=A9
       have w4:(i:Int).tmod 8=((i % 8:Nat):Int):=Ji
       have w5:IntKind.i64.wrap (8 * ((i % 8:Nat):Int))=((8 * (i % 8):Nat):Int):=A9
       have w6:IntKind.u64.wrap ((8 * (i % 8):Nat):Int)=((8 * (i % 8):Nat):Int):=Cy Aa
       (refine es 30 ?_;simp (maxSteps:=2000000) only [d3,w1,w2,w3,w4,w5,w6,Dx,↓Ab,A5,Ad,Nat.reduceLT,Int.reduceLE,Int.reduceLT,Nat.reducePow,Nat.reduceAnd,Nat.reduceOr,Nat.reduceShiftRight,Int.reduceToNat,reduceCtorEq,Nat.reduceAdd,Nat.reduceMul,Nat.reduceSub,Nat.reduceBEq,Nat.reduceEqDiff,Nat.reduceLeDiff,Nat.reduceBneDiff,Nat.reduceBNe,↓reduceIte])
       refine ⟨by omega,⟨by omega,by omega⟩,by omega,by omega,⟨by omega,by omega⟩,by omega,by omega,by omega,by omega,⟨by omega,by omega⟩,by omega,i + 1,by omega,by omega,?_⟩
       have e8:∀ j,(if j=i / 8 then Oc (List.replicate 25 0) (pd p) (i / 8) (i % 8) (i / 8) ^^^ BitVec.setWidth 64 (pd p i) <<< (8 * (i % 8)) else Oc (List.replicate 25 0) (pd p) (i / 8) (i % 8) j)=Oc (List.replicate 25 0) (pd p) ((i + 1) / 8) ((i + 1) % 8) j:=by
        intro j
        have e9:pd p i=pd p (8 * (i / 8) + i % 8):=by congr 1;omega
        rw [e9,Adn]
        by_cases h7:i % 8=7
        ·have ea:(i + 1) / 8=i / 8 + 1:=Aa
         have eb:(i + 1) % 8=0:=Aa
         rw [h7,ea,eb,Adm]
        ·have ea:(i + 1) / 8=i / 8:=Aa
         have eb:(i + 1) % 8=i % 8 + 1:=Aa
         rw [ea,eb]
       refine Aj.fr [0,1,2,3,4] [] hx Ax Ak ?_ ?_
       ·simp only [A7,Nat.reduceLT,reduceCtorEq,Nat.reduceEqDiff,Nat.reduceLeDiff,Nat.reduceBEq]
       ·simp only [A7,Nat.reduceLT,reduceCtorEq,Nat.reduceEqDiff,Nat.reduceLeDiff,Nat.reduceBEq,e8]
  ·have e1:((n:Nat):Int).tmod 136=n:=Ji
   have d0:decide ((n:Int)=0)=false:=decide_eq_false Aa
   (refine es 30 ?_;simp (maxSteps:=2000000) only [e1,d0,Dx,↓Ab,A5,Ad,Nat.reduceLT,Int.reduceLE,Int.reduceLT,Nat.reducePow,Nat.reduceAnd,Nat.reduceOr,Nat.reduceShiftRight,Int.reduceToNat,reduceCtorEq,Nat.reduceAdd,Nat.reduceMul,Nat.reduceSub,Nat.reduceBEq,Nat.reduceEqDiff,Nat.reduceLeDiff,Nat.reduceBneDiff,Nat.reduceBNe,↓reduceIte])
   refine ⟨by omega,by omega,n + 1,by omega,by omega,?_⟩
   refine Aj.fr [0,1,2,100] [] hx Ax Ak ?_ ?_
   ·simp only [A7,Nat.reduceLT,reduceCtorEq,Nat.reduceEqDiff,Nat.reduceLeDiff,Nat.reduceBEq]
   ·simp only [A7,Nat.reduceLT,reduceCtorEq,Nat.reduceEqDiff,Nat.reduceLeDiff,Nat.reduceBEq]
    intro i hi
    by_cases h1:i < n
    ·rw [if_pos h1];exact (Gv _ _ _ _ _).mpr rfl
    ·have:i=n:=Aa
     subst this
     have e2:p1 p i=0:=by rw [p1,if_neg Aa,if_neg Aa]
     rw [if_neg h1,e2]
     simp only [ite_self]
     exact (Gv _ _ _ 0 0).mpr rfl
end Mv
