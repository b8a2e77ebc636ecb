/- A part. -/
import Derived.Test.YtfljfijnobocoaaDoorDA
set_option linter.all false
set_option maxRecDepth 20000
set_option maxHeartbeats 4000000
namespace Mv
open Go
def par (s:List (BitVec 64)) (x:Nat):BitVec 64:=s.getD x 0 ^^^ s.getD (x + 5) 0 ^^^ s.getD (x + 10) 0 ^^^ s.getD (x + 15) 0 ^^^ s.getD (x + 20) 0
def SS (s:List (BitVec 64)) (x:Nat):BitVec 64:=par s ((x + 4) % 5) ^^^ rot (par s ((x + 1) % 5)) 1
def Oj (s:List (BitVec 64)) (q j:Nat):BitVec 64:=if j < 5 * q then s.getD j 0 ^^^ SS s (j % 5) else s.getD j 0
def th (s:List (BitVec 64)):List (BitVec 64):=(List.range 25).map (Oj s 5)
theorem Zj (s:List (BitVec 64)) (j:Nat) (hj:j < 25):(th s).getD j 0=Oj s 5 j:=by
 simp [th,List.getD,List.getElem?_map,List.getElem?_range hj]
def Sr (a:List (BitVec 64)):Nat→BitVec 64 × List (BitVec 64)
 | 0=>(a.getD 1 0,a)
 | p + 1=>((Sr a p).2.getD (lanes.getD p 0).toNat 0,(Sr a p).2.set (lanes.getD p 0).toNat (rot (Sr a p).1 (turns.getD p 0).toNat))
theorem ZQ (s:List (BitVec 64)):(th s).length=25:=by simp [th]
theorem Qo (a:List (BitVec 64)) (ha:a.length=25):∀ p,(Sr a p).2.length=25
 | 0=>ha
 | p + 1=>by simp only [Sr,List.length_set];exact Qo a ha p
theorem ZF (l:List (BitVec 64)) (t:Nat) (v:BitVec 64) (j:Nat) (ht:t < l.length):(l.set t v).getD j 0=if j=t then v else l.getD j 0:=by
 by_cases h:j=t
 ·subst h;simp [List.getD,ht]
 ·simp [List.getD,List.getElem?_set_ne (Ne.symm h),h]
def FZ (b:List (BitVec 64)) (q j:Nat):BitVec 64 :=
 if j < 5 * q then b.getD j 0 ^^^ (~~~ b.getD (5 * (j / 5) + (j + 1) % 5) 0 &&& b.getD (5 * (j / 5) + (j + 2) % 5) 0) else b.getD j 0
theorem TK (s:List (BitVec 64)) (q j:Nat) :
 (if j=5 * q + 4 then Oj s q (5 * q + 4) ^^^ SS s 4 else if j=5 * q + 3 then Oj s q (5 * q + 3) ^^^ SS s 3 else if j=5 * q + 2 then Oj s q (5 * q + 2) ^^^ SS s 2 else if j=5 * q + 1 then Oj s q (5 * q + 1) ^^^ SS s 1 else if j=5 * q then Oj s q (5 * q) ^^^ SS s 0 else Oj s q j)=Oj s (q + 1) j:=by
 have key:∀ c,c < 5→Oj s q (5 * q + c) ^^^ SS s c=Oj s (q + 1) (5 * q + c):=fun c hc=>by
  have e1:(5 * q + c) % 5=c:=Aa
  simp only [Oj,if_neg (show ¬ 5 * q + c < 5 * q by omega),if_pos (show 5 * q + c < 5 * (q + 1) by omega),e1]
 split
 ·rename_i h;rw [h];exact key 4 Aa
 ·split
  ·rename_i h;rw [h];exact key 3 Aa
  ·split
   ·rename_i h;rw [h];exact key 2 Aa
   ·split
    ·rename_i h;rw [h];exact key 1 Aa
    ·split
     ·rename_i h;rw [h];exact key 0 Aa
     ·by_cases hj:j < 5 * q
      ·simp only [Oj,if_pos hj,if_pos (show j < 5 * (q + 1) by omega)]
      ·simp only [Oj,if_neg hj,if_neg (show ¬ j < 5 * (q + 1) by omega)]
theorem Wm (b:List (BitVec 64)) (q j:Nat) :
 (if j=5 * q + 4 then FZ b q (5 * q + 4) ^^^ (~~~ FZ b q (5 * q) &&& FZ b q (5 * q + 1)) else if j=5 * q + 3 then FZ b q (5 * q + 3) ^^^ (~~~ FZ b q (5 * q + 4) &&& FZ b q (5 * q))
  else if j=5 * q + 2 then FZ b q (5 * q + 2) ^^^ (~~~ FZ b q (5 * q + 3) &&& FZ b q (5 * q + 4)) else if j=5 * q + 1 then FZ b q (5 * q + 1) ^^^ (~~~ FZ b q (5 * q + 2) &&& FZ b q (5 * q + 3))
  else if j=5 * q then FZ b q (5 * q) ^^^ (~~~ FZ b q (5 * q + 1) &&& FZ b q (5 * q + 2)) else FZ b q j)=FZ b (q + 1) j:=by
 have raw:∀ c,FZ b q (5 * q + c)=b.getD (5 * q + c) 0:=fun c=>by simp only [FZ,if_neg (show ¬ 5 * q + c < 5 * q by omega)]
 have raw0:FZ b q (5 * q)=b.getD (5 * q) 0:=raw 0
 have key:∀ c,c < 5→FZ b (q + 1) (5 * q + c)=b.getD (5 * q + c) 0 ^^^ (~~~ b.getD (5 * q + (c + 1) % 5) 0 &&& b.getD (5 * q + (c + 2) % 5) 0):=fun c hc=>by
  have e0:(5 * q + c) / 5=q:=Aa
  have e1:(5 * q + c + 1) % 5=(c + 1) % 5:=Aa
  have e2:(5 * q + c + 2) % 5=(c + 2) % 5:=Aa
  simp only [FZ,if_pos (show 5 * q + c < 5 * (q + 1) by omega),e0,e1,e2]
 simp only [raw,raw0]
 split
 ·rename_i h;rw [h,key 4 Aa];rfl
 ·split
  ·rename_i h;rw [h,key 3 Aa];rfl
  ·split
   ·rename_i h;rw [h,key 2 Aa]
   ·split
    ·rename_i h;rw [h,key 1 Aa]
    ·split
     ·rename_i h;rw [h];exact (key 0 Aa).symm
     ·by_cases hj:j < 5 * q
      ·simp only [FZ,if_pos hj,if_pos (show j < 5 * (q + 1) by omega)]
      ·simp only [FZ,if_neg hj,if_neg (show ¬ j < 5 * (q + 1) by omega)]
def rnd (s:List (BitVec 64)) (n:Nat):List (BitVec 64) :=
 (List.range 25).map fun j=>if j=0 then FZ (Sr (th s) 24).2 5 0 ^^^ rc.getD n 0 else FZ (Sr (th s) 24).2 5 j
def Q8 (s:List (BitVec 64)):Nat→List (BitVec 64)
 | 0=>s
 | n + 1=>rnd (Q8 s n) n
def Zd (s:List (BitVec 64)):List (BitVec 64):=Q8 s 24
theorem Adx (s:List (BitVec 64)) (n j:Nat) (hj:j < 25):(rnd s n).getD j 0=if j=0 then FZ (Sr (th s) 24).2 5 0 ^^^ rc.getD n 0 else FZ (Sr (th s) 24).2 5 j:=by
 simp [rnd,List.getD,List.getElem?_map,List.getElem?_range hj]
theorem Mq {M:Seat} (hc:Au M 417 Aad=true) (hrot:Au M 462 Ux=true) (s:List (BitVec 64)) :
 Ag M 417 [.ar 1 25 (ws s)] [] 0 (Q3 (.ar 1 25 (ws (Zd s))) [] 0):=by
 refine Ab hc rfl fun x hx=>?_
 refine es 30 ?_
 simp (maxSteps:=2000000) only [Aad,Ae0,E5,↓Ad,ex,Ro,AJ,AX,Ae,Nat.reduceLT,Int.reduceLE,Int.reduceLT,Nat.reducePow,Nat.reduceAnd,Nat.reduceOr,Nat.reduceShiftRight,Int.reduceToNat,reduceCtorEq,Nat.reduceAdd,Nat.reduceMul,Nat.reduceSub,Nat.reduceBEq,Nat.reduceEqDiff]
 refine An (σ:=Nat × List (BitVec 64)) (fun i=>i.1≤24∧i.2=Q8 s i.1) (fun i=>fr 270 [(1,.ptr 0 []),(2,.ptr 1 []),(27,.ar 1 24 (ws rc)),(28,.int .i64 i.1)])
  (fun i=>[(0,.ar 1 25 (ws i.2)),(1,.ar 1 25 (fun _=>W 0))]) (fun _=>2) (fun i=>24 - i.1) (0,s) ⟨by simp,rfl⟩ ?_ ?_
 ·refine Ao.fr [0,16] [] hx AQ Am ?_ ?_
  ·simp only [Ko,Nat.reduceLT,reduceCtorEq,Nat.reduceEqDiff]
   exact ⟨fun _ _=>trivial,rfl⟩
  ·simp only [Ko,Nat.reduceLT,reduceCtorEq,Nat.reduceEqDiff]
   exact ⟨⟨rfl,fun _ _=>trivial⟩,fun _ _=>by simp only [W,Az];rfl⟩
 ·intro i ⟨hi,hii⟩
  refine es 40 ?_
  simp (maxSteps:=2000000) only [E5,↓Ad,ex,Ro,AJ,AX,Ae,Nat.reduceLT,Int.reduceLE,Int.reduceLT,Nat.reducePow,Nat.reduceAnd,Nat.reduceOr,Nat.reduceShiftRight,Int.reduceToNat,reduceCtorEq,Nat.reduceAdd,Nat.reduceMul,Nat.reduceSub,Nat.reduceBEq,Nat.reduceEqDiff]
  refine ⟨fun hlt=>?_,fun hge=>?_⟩
  ·have hlt:(i.1:Int) < 24:=So
   refine ⟨⟨by omega,by omega⟩,?_⟩
   refine AE (Df hrot _ 1 Aa) ⟨rfl,rfl,trivial⟩ rfl ?_
   simp (maxSteps:=2000000) only [E5,↓Ad,ex,Ro,AJ,AX,Ae,Nat.reduceLT,Int.reduceLE,Int.reduceLT,Nat.reducePow,Nat.reduceAnd,Nat.reduceOr,Nat.reduceShiftRight,Int.reduceToNat,reduceCtorEq,Nat.reduceAdd,Nat.reduceMul,Nat.reduceSub,Nat.reduceBEq,Nat.reduceEqDiff]
   refine AE (Df hrot _ 1 Aa) ⟨rfl,rfl,trivial⟩ rfl ?_
   simp (maxSteps:=2000000) only [E5,↓Ad,ex,Ro,AJ,AX,Ae,Nat.reduceLT,Int.reduceLE,Int.reduceLT,Nat.reducePow,Nat.reduceAnd,Nat.reduceOr,Nat.reduceShiftRight,Int.reduceToNat,reduceCtorEq,Nat.reduceAdd,Nat.reduceMul,Nat.reduceSub,Nat.reduceBEq,Nat.reduceEqDiff]
   refine AE (Df hrot _ 1 Aa) ⟨rfl,rfl,trivial⟩ rfl ?_
   simp (maxSteps:=2000000) only [E5,↓Ad,ex,Ro,AJ,AX,Ae,Nat.reduceLT,Int.reduceLE,Int.reduceLT,Nat.reducePow,Nat.reduceAnd,Nat.reduceOr,Nat.reduceShiftRight,Int.reduceToNat,reduceCtorEq,Nat.reduceAdd,Nat.reduceMul,Nat.reduceSub,Nat.reduceBEq,Nat.reduceEqDiff]
   refine AE (Df hrot _ 1 Aa) ⟨rfl,rfl,trivial⟩ rfl ?_
   simp (maxSteps:=2000000) only [E5,↓Ad,ex,Ro,AJ,AX,Ae,Nat.reduceLT,Int.reduceLE,Int.reduceLT,Nat.reducePow,Nat.reduceAnd,Nat.reduceOr,Nat.reduceShiftRight,Int.reduceToNat,reduceCtorEq,Nat.reduceAdd,Nat.reduceMul,Nat.reduceSub,Nat.reduceBEq,Nat.reduceEqDiff]
   refine AE (Df hrot _ 1 Aa) ⟨rfl,rfl,trivial⟩ rfl ?_
   simp (maxSteps:=2000000) only [E5,↓Ad,ex,Ro,AJ,AX,Ae,Nat.reduceLT,Int.reduceLE,Int.reduceLT,Nat.reducePow,Nat.reduceAnd,Nat.reduceOr,Nat.reduceShiftRight,Int.reduceToNat,reduceCtorEq,Nat.reduceAdd,Nat.reduceMul,Nat.reduceSub,Nat.reduceBEq,Nat.reduceEqDiff]
   refine An (σ:=Nat) (fun q=>q≤5) (fun q=>fr 270 [(1,.ptr 0 []),(2,.ptr 1 []),(4,W (rc.getD i.1 0)),(10,W (SS i.2 0)),(11,W (SS i.2 1)),(12,W (SS i.2 2)),(13,W (SS i.2 3)),(14,W (SS i.2 4)),(15,.int .i64 (5 * q:Nat)),(27,.ar 1 24 (ws rc)),(28,.int .i64 i.1)])
    (fun q=>[(0,.ar 1 25 (fun j=>W (Oj i.2 q j))),(1,.ar 1 25 (fun _=>W 0))]) (fun _=>2) (fun q=>5 - q) 0 Aa ?_ ?_
   ·refine Ao.fr [0,1] [] hx AQ Am ?_ ?_
    ·simp only [Ko,Nat.reduceLT,reduceCtorEq,Nat.reduceEqDiff]
     exact ⟨rfl,rfl,rfl,rfl,rfl,rfl,fun _ _=>trivial⟩
    ·simp only [Ko,Nat.reduceLT,reduceCtorEq,Nat.reduceEqDiff]
     exact ⟨fun j _=>by simp [Oj],rfl,fun _ _=>trivial⟩
   ·intro q hq
    refine es 40 ?_
    simp (maxSteps:=2000000) only [E5,↓Ad,ex,Ro,AJ,AX,Ae,Nat.reduceLT,Int.reduceLE,Int.reduceLT,Nat.reducePow,Nat.reduceAnd,Nat.reduceOr,Nat.reduceShiftRight,Int.reduceToNat,reduceCtorEq,Nat.reduceAdd,Nat.reduceMul,Nat.reduceSub,Nat.reduceBEq,Nat.reduceEqDiff]
    refine ⟨fun hlt2=>?_,fun hge2=>?_⟩
    ·have hlt2:((5 * q:Nat):Int) < 25:=by simpa using hlt2
     refine ⟨by omega,by omega,by omega,by omega,by omega,by omega,by omega,by omega,by omega,by omega,by omega,by omega,by omega,by omega,by omega,by omega,by omega,q + 1,by omega,by omega,?_⟩
     have w1:IntKind.i64.wrap (((5 * q:Nat):Int) + 5)=((5 * (q + 1):Nat):Int):=AZ
     refine Ao.fr [0,1] [] hx AQ Am ?_ ?_
     ·simp only [Ko,Nat.reduceLT,reduceCtorEq,Nat.reduceEqDiff,w1]
      exact fun _ _=>trivial
     ·simp only [Ko,Nat.reduceLT,reduceCtorEq,Nat.reduceEqDiff]
      exact ⟨fun j _=>TK _ _ _,rfl,fun _ _=>trivial⟩
    ·have hge2:¬ ((5 * q:Nat):Int) < 25:=by simpa using hge2
     have hq5:q=5:=Aa
     subst hq5
     refine An (σ:=Nat) (fun p=>p≤24) (fun p=>fr 270 [(1,.ptr 0 []),(2,.ptr 1 []),(4,W (rc.getD i.1 0)),(17,W (Sr (th i.2) p).1),(27,.ar 1 24 (ws rc)),(28,.int .i64 i.1),(175,.ar 1 24 (fun i=>.int .i64 (lanes.getD i 0))),(176,.int .i64 p)])
      (fun p=>[(0,.ar 1 25 (ws (Sr (th i.2) p).2)),(1,.ar 1 25 (fun _=>W 0))]) (fun _=>2) (fun p=>24 - p) 0 Aa ?_ ?_
     ·refine Ao.fr [0,1] [] hx AQ Am ?_ ?_
      ·simp only [Ko,Nat.reduceLT,reduceCtorEq,Nat.reduceEqDiff]
       exact ⟨(Zj _ 1 Aa).symm,fun _ _=>trivial,fun _ _=>trivial,rfl⟩
      ·simp only [Ko,Nat.reduceLT,reduceCtorEq,Nat.reduceEqDiff]
       exact ⟨fun j hj=>(Zj _ j hj).symm,rfl,fun _ _=>trivial⟩
     ·intro p hp
      refine es 40 ?_
      simp (maxSteps:=2000000) only [E5,↓Ad,ex,Ro,AJ,AX,Ae,Nat.reduceLT,Int.reduceLE,Int.reduceLT,Nat.reducePow,Nat.reduceAnd,Nat.reduceOr,Nat.reduceShiftRight,Int.reduceToNat,reduceCtorEq,Nat.reduceAdd,Nat.reduceMul,Nat.reduceSub,Nat.reduceBEq,Nat.reduceEqDiff]
      refine ⟨fun hlt3=>?_,fun hge3=>?_⟩
      ·have hlt3:(p:Int) < 24:=by simpa using hlt3
       have ht:=UY p Aa
       have hl:=TU p Aa
       have ht2:turns.getD p 0=((turns.getD p 0).toNat:Int):=Aa
       have hcall:=Df hrot (Sr (th i.2) p).1 (turns.getD p 0).toNat Aa
       rw [← ht2] at hcall
       refine ⟨⟨by omega,by omega⟩,⟨⟨by omega,by omega⟩,by omega⟩,_,_,AE hcall ⟨rfl,rfl,trivial⟩ rfl ⟨rfl,rfl⟩,?_⟩
       simp (maxSteps:=2000000) only [E5,↓Ad,ex,Ro,AJ,AX,Ae,Nat.reduceLT,Int.reduceLE,Int.reduceLT,Nat.reducePow,Nat.reduceAnd,Nat.reduceOr,Nat.reduceShiftRight,Int.reduceToNat,reduceCtorEq,Nat.reduceAdd,Nat.reduceMul,Nat.reduceSub,Nat.reduceBEq,Nat.reduceEqDiff]
       refine ⟨hl,by omega,⟨by omega,by omega⟩,hl,by omega,p + 1,by omega,by omega,?_⟩
       have w1:IntKind.i64.wrap ((p:Int) + 1)=((p + 1:Nat):Int):=AZ
       refine Ao.fr [0,1] [] hx AQ Am ?_ ?_
       ·simp only [Ko,Nat.reduceLT,reduceCtorEq,Nat.reduceEqDiff,w1]
        exact ⟨rfl,fun _ _=>trivial⟩
       ·simp only [Ko,Nat.reduceLT,reduceCtorEq,Nat.reduceEqDiff]
        exact ⟨fun j hj=>(ZF _ _ _ _ (by rw [Qo _ (ZQ _)];omega)).symm,rfl,fun _ _=>trivial⟩
      ·have hge3:¬ (p:Int) < 24:=by simpa using hge3
       have hp24:p=24:=Aa
       subst hp24
       refine An (σ:=Nat) (fun q=>q≤5) (fun q=>fr 270 [(1,.ptr 0 []),(2,.ptr 1 []),(4,W (rc.getD i.1 0)),(20,.int .i64 (5 * q:Nat)),(27,.ar 1 24 (ws rc)),(28,.int .i64 i.1)])
        (fun q=>[(0,.ar 1 25 (fun j=>W (FZ (Sr (th i.2) 24).2 q j))),(1,.ar 1 25 (fun _=>W 0))]) (fun _=>2) (fun q=>5 - q) 0 Aa ?_ ?_
       ·refine Ao.fr [0,1] [] hx AQ Am ?_ ?_
        ·simp only [Ko,Nat.reduceLT,reduceCtorEq,Nat.reduceEqDiff]
         exact ⟨rfl,fun _ _=>trivial⟩
        ·simp only [Ko,Nat.reduceLT,reduceCtorEq,Nat.reduceEqDiff]
         exact ⟨fun j _=>by simp [FZ],rfl,fun _ _=>trivial⟩
       ·intro q hq
        refine es 40 ?_
        simp (maxSteps:=2000000) only [E5,↓Ad,ex,Ro,AJ,AX,Ae,Nat.reduceLT,Int.reduceLE,Int.reduceLT,Nat.reducePow,Nat.reduceAnd,Nat.reduceOr,Nat.reduceShiftRight,Int.reduceToNat,reduceCtorEq,Nat.reduceAdd,Nat.reduceMul,Nat.reduceSub,Nat.reduceBEq,Nat.reduceEqDiff]
        refine ⟨fun hlt4=>?_,fun hge4=>?_⟩
        ·have hlt4:((5 * q:Nat):Int) < 25:=by simpa using hlt4
         refine ⟨by omega,by omega,by omega,by omega,by omega,by omega,by omega,by omega,by omega,by omega,by omega,by omega,by omega,by omega,by omega,by omega,by omega,q + 1,by omega,by omega,?_⟩
         have w1:IntKind.i64.wrap (((5 * q:Nat):Int) + 5)=((5 * (q + 1):Nat):Int):=AZ
         refine Ao.fr [0,1] [] hx AQ Am ?_ ?_
         ·simp only [Ko,Nat.reduceLT,reduceCtorEq,Nat.reduceEqDiff,w1]
          exact fun _ _=>trivial
         ·simp only [Ko,Nat.reduceLT,reduceCtorEq,Nat.reduceEqDiff]
          exact ⟨fun j _=>Wm _ _ _,rfl,fun _ _=>trivial⟩
        ·have hge4:¬ ((5 * q:Nat):Int) < 25:=by simpa using hge4
         have hq5:q=5:=Aa
         subst hq5
         have w1:IntKind.i64.wrap ((i.1:Int) + 1)=((i.1 + 1:Nat):Int):=AZ
         refine ⟨(i.1 + 1,rnd i.2 i.1),⟨by simp only;omega,by simp only [Q8,hii]⟩,by simp only;omega,?_⟩
         refine Ao.fr [0,1] [] hx AQ Am ?_ ?_
         ·simp only [Ko,Nat.reduceLT,reduceCtorEq,Nat.reduceEqDiff,w1]
          exact fun _ _=>trivial
         ·simp only [Ko,Nat.reduceLT,reduceCtorEq,Nat.reduceEqDiff]
          exact ⟨fun j hj=>(Adx _ _ _ hj).symm,rfl,fun _ _=>trivial⟩
  ·have hge:¬ (i.1:Int) < 24:=Am5
   have hi24:i.1=24:=Aa
   refine Ar.mk hx [] [] (.ar 1 25 (ws (Zd s))) [] 0 Am ?_ ?_ ?_ ⟨rfl,rfl,rfl⟩
   ·simp only [Dz,G1,E5,↓Ad,ex,Ro,AJ,AX,Ae,Nat.reduceLT,Int.reduceLE,Int.reduceLT,Nat.reducePow,Nat.reduceAnd,Nat.reduceOr,Nat.reduceShiftRight,Int.reduceToNat,reduceCtorEq,Nat.reduceAdd,Nat.reduceMul,Nat.reduceSub,Nat.reduceBEq,Nat.reduceEqDiff]
   ·simp only [Dz,DC,E5,↓Ad,ex,Ro,AJ,AX,Ae,Nat.reduceLT,Int.reduceLE,Int.reduceLT,Nat.reducePow,Nat.reduceAnd,Nat.reduceOr,Nat.reduceShiftRight,Int.reduceToNat,reduceCtorEq,Nat.reduceAdd,Nat.reduceMul,Nat.reduceSub,Nat.reduceBEq,Nat.reduceEqDiff,LS,La4]
    intro j hj
    rw [hii,hi24,Zd]
   ·trivial
end Mv
