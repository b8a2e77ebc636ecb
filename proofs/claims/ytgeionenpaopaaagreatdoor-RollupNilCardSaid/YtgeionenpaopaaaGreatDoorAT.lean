/- A part. -/
import Derived.Test.YtgeionenpaopaaaGreatDoorAS
set_option linter.all false
set_option maxRecDepth 20000
set_option maxHeartbeats 4000000
namespace Mv
open Go
structure OkM (M:Seat):Prop where
 k51:Ar M 51 f51=true
 k74:Ar M 74 f74=true
 k200:Ar M 200 Azi=true
 k207:Ar M 207 Ahr=true
 k315:Ar M 315 Aib=true
 k316:Ar M 316 Axy=true
 k317:Ar M 317 Aha=true
 k318:Ar M 318 Akk=true
 k312:Ar M 312 Au1=true
 k417:Ar M 417 Aak=true
 k462:Ar M 462 Vr=true
 k199:Ar M 199 Aw4=true
 k202:Ar M 202 Awq=true
structure OkA (M:Seat):Prop extends OkM M where
instance {M:Seat}:Coe (OkA M) (OkM M):=⟨OkA.toOkM⟩
theorem Zt {M:Seat} (hc:Ar M 462 Vr=true) (x k:Nat) (hx:x < 18446744073709551616) (hk:k < 64) :
 As M 462 [.int .u64 x,.int .i64 k] [] 0 (Q3 (.int .u64 (Vx x k:Nat)) [] 0):=by
 refine Ac hc rfl fun c hck=>?_;refine es 30 ?_;simp only [Vr,Aox,GR,↓Ax,ex,Ro,Cr,Dy,Ag,seval];have w1:IntKind.u64.wrap ((k:Nat):Int)=(k:Nat):=FE Aa;have w2:IntKind.u64.wrap ((BitVec.ofInt IntKind.u64.bits ((k:Nat):Int) &&& BitVec.ofInt IntKind.u64.bits 63).toNat:Int)=((k:Nat):Int):=by
  have h:=RH (a:=k) (b:=63) Aa Aa;have h2:k &&& 63=k:=by
   have h3:=Nat.and_two_pow_sub_one_eq_mod k 6;have h4:k &&& 63=k % 2 ^ 6:=h3;omega
  rw [h2] at h;exact h
 have w3:IntKind.u64.wrap (64 - ((k:Nat):Int))=((64 - k:Nat):Int):=by rw [FE Aa];omega
 have w4:=Abg (a:=x) (k:=k) hk;have w5:=Ade (a:=x) (k:=64 - k) Aa;simp only [w1,w2,w3,w4,w5];have hl:=Adl (k:=k) hx
 have w6:=YV (a:=x <<< k % 18446744073709551616) (b:=x >>> (64 - k)) (Nat.mod_lt _ Aa) (by
  rw [Nat.shiftRight_eq_div_pow]
  exact Nat.lt_of_le_of_lt (Nat.div_le_self _ _) hx)
 simp only [w6];refine ⟨by omega,by omega,?_⟩;refine Ay.mk hck [] [] (.int .u64 (Vx x k:Nat)) [] 0 Ab ?_ ?_ trivial ⟨rfl,rfl,rfl⟩
 ·simp [EO,H9]
 ·simp only [EO,Ez,Fj,Kq,ne_eq,not_false_eq_true,seval,B5,Aw,Vx]
theorem DI {M:Seat} (hc:Ar M 462 Vr=true) (x:BitVec 64) (k:Nat) (hk:k < 64) :
 As M 462 [W x,.int .i64 k] [] 0 (Q3 (W (rot x k)) [] 0):=by
 have h:=Zt hc x.toNat k (O5 x) hk;simp only [ZE] at h;exact h
def par (s:List (BitVec 64)) (x:Nat):BitVec 64:=s.getD x 0 ^^^ s.getD (x + 5) 0 ^^^ s.getD (x + 10) 0 ^^^ s.getD (x + 15) 0 ^^^ s.getD (x + 20) 0
def V3 (s:List (BitVec 64)) (x:Nat):BitVec 64:=par s ((x + 4) % 5) ^^^ rot (par s ((x + 1) % 5)) 1
def On (s:List (BitVec 64)) (q j:Nat):BitVec 64:=if j < 5 * q then s.getD j 0 ^^^ V3 s (j % 5) else s.getD j 0
def th (s:List (BitVec 64)):List (BitVec 64):=(List.range 25).map (On s 5)
theorem Afx (s:List (BitVec 64)) (j:Nat) (hj:j < 25):(th s).getD j 0=On s 5 j:=by
 simp [th,List.getD,List.getElem?_map,List.getElem?_range hj]
def Tq (a:List (BitVec 64)):Nat→BitVec 64 × List (BitVec 64)
 | 0=>(a.getD 1 0,a)
 | p + 1=>((Tq a p).2.getD (lanes.getD p 0).toNat 0,(Tq a p).2.set (lanes.getD p 0).toNat (rot (Tq a p).1 (turns.getD p 0).toNat))
theorem Ags (s:List (BitVec 64)):(th s).length=25:=by simp [th]
theorem RN (a:List (BitVec 64)) (ha:a.length=25):∀ p,(Tq a p).2.length=25
 | 0=>ha
 | p + 1=>by simp only [Tq,List.length_set];exact RN a ha p
theorem Ah5 (l:List (BitVec 64)) (t:Nat) (v:BitVec 64) (j:Nat) (ht:t < l.length):(l.set t v).getD j 0=if j=t then v else l.getD j 0:=by
 by_cases h:j=t
 ·subst h;simp [List.getD,ht]
 ·simp [List.getD,List.getElem?_set_ne (Ne.symm h),h]
def Hi (b:List (BitVec 64)) (q j:Nat):BitVec 64 :=
 if j < 5 * q then b.getD j 0 ^^^ (~~~ b.getD (5 * (j / 5) + (j + 1) % 5) 0 &&& b.getD (5 * (j / 5) + (j + 2) % 5) 0) else b.getD j 0
theorem Yd (s:List (BitVec 64)) (q j:Nat) :
 (if j=5 * q + 4 then On s q (5 * q + 4) ^^^ V3 s 4 else if j=5 * q + 3 then On s q (5 * q + 3) ^^^ V3 s 3 else if j=5 * q + 2 then On s q (5 * q + 2) ^^^ V3 s 2 else if j=5 * q + 1 then On s q (5 * q + 1) ^^^ V3 s 1 else if j=5 * q then On s q (5 * q) ^^^ V3 s 0 else On s q j)=On s (q + 1) j:=by
 have key:∀ c,c < 5→On s q (5 * q + c) ^^^ V3 s c=On s (q + 1) (5 * q + c):=fun c hc=>by
  have e1:(5 * q + c) % 5=c:=Aa;simp only [On,if_neg (show ¬ 5 * q + c < 5 * q by omega),if_pos (show 5 * q + c < 5 * (q + 1) by omega),e1]
 split
 ·rename_i h;rw [h];exact key 4 Aa
 ·split
  ·rename_i h;rw [h];exact key 3 Aa
  ·split
   ·rename_i h;rw [h];exact key 2 Aa
   ·split
    ·rename_i h;rw [h];exact key 1 Aa
    ·split
     ·rename_i h;rw [h];exact key 0 Aa
     ·by_cases hj:j < 5 * q
      ·simp only [On,if_pos hj,if_pos (show j < 5 * (q + 1) by omega)]
      ·simp only [On,if_neg hj,if_neg (show ¬ j < 5 * (q + 1) by omega)]
theorem Y2 (b:List (BitVec 64)) (q j:Nat) :
 (if j=5 * q + 4 then Hi b q (5 * q + 4) ^^^ (~~~ Hi b q (5 * q) &&& Hi b q (5 * q + 1)) else if j=5 * q + 3 then Hi b q (5 * q + 3) ^^^ (~~~ Hi b q (5 * q + 4) &&& Hi b q (5 * q))
  else if j=5 * q + 2 then Hi b q (5 * q + 2) ^^^ (~~~ Hi b q (5 * q + 3) &&& Hi b q (5 * q + 4)) else if j=5 * q + 1 then Hi b q (5 * q + 1) ^^^ (~~~ Hi b q (5 * q + 2) &&& Hi b q (5 * q + 3))
  else if j=5 * q then Hi b q (5 * q) ^^^ (~~~ Hi b q (5 * q + 1) &&& Hi b q (5 * q + 2)) else Hi b q j)=Hi b (q + 1) j:=by
 have raw:∀ c,Hi b q (5 * q + c)=b.getD (5 * q + c) 0:=fun c=>by simp only [Hi,if_neg (show ¬ 5 * q + c < 5 * q by omega)]
 have raw0:Hi b q (5 * q)=b.getD (5 * q) 0:=raw 0;have key:∀ c,c < 5→Hi b (q + 1) (5 * q + c)=b.getD (5 * q + c) 0 ^^^ (~~~ b.getD (5 * q + (c + 1) % 5) 0 &&& b.getD (5 * q + (c + 2) % 5) 0):=fun c hc=>by
  have e0:(5 * q + c) / 5=q:=Aa;have e1:(5 * q + c + 1) % 5=(c + 1) % 5:=Aa;have e2:(5 * q + c + 2) % 5=(c + 2) % 5:=Aa;simp only [Hi,if_pos (show 5 * q + c < 5 * (q + 1) by omega),e0,e1,e2]
 simp only [raw,raw0];split
 ·rename_i h;rw [h,key 4 Aa];rfl
 ·split
  ·rename_i h;rw [h,key 3 Aa];rfl
  ·split
   ·rename_i h;rw [h,key 2 Aa]
   ·split
    ·rename_i h;rw [h,key 1 Aa]
    ·split
     ·rename_i h;rw [h];exact (key 0 Aa).symm
     ·by_cases hj:j < 5 * q
      ·simp only [Hi,if_pos hj,if_pos (show j < 5 * (q + 1) by omega)]
      ·simp only [Hi,if_neg hj,if_neg (show ¬ j < 5 * (q + 1) by omega)]
def rnd (s:List (BitVec 64)) (n:Nat):List (BitVec 64) :=
 (List.range 25).map fun j=>if j=0 then Hi (Tq (th s) 24).2 5 0 ^^^ rc.getD n 0 else Hi (Tq (th s) 24).2 5 j
def RO (s:List (BitVec 64)):Nat→List (BitVec 64)
 | 0=>s
 | n + 1=>rnd (RO s n) n
def Aa5 (s:List (BitVec 64)):List (BitVec 64):=RO s 24
theorem Akt (s:List (BitVec 64)) (n j:Nat) (hj:j < 25):(rnd s n).getD j 0=if j=0 then Hi (Tq (th s) 24).2 5 0 ^^^ rc.getD n 0 else Hi (Tq (th s) 24).2 5 j:=by
 simp [rnd,List.getD,List.getElem?_map,List.getElem?_range hj]
theorem MJ {M:Seat} (hc:Ar M 417 Aak=true) (hrot:Ar M 462 Vr=true) (s:List (BitVec 64)) :
 As M 417 [.ar 1 25 (ws s)] [] 0 (Q3 (.ar 1 25 (ws (Aa5 s))) [] 0):=by
 refine Ac hc rfl fun x hx=>?_;refine es 30 ?_;simp (maxSteps:=2000000) only [Aak,An3,GR,↓Ax,ex,Ro,Cr,Dy,Ag,Nat.reduceLT,Int.reduceLE,Int.reduceLT,Nat.reducePow,Nat.reduceAnd,Nat.reduceOr,Nat.reduceShiftRight,Int.reduceToNat,reduceCtorEq,Nat.reduceAdd,Nat.reduceMul,Nat.reduceSub,Nat.reduceBEq,Nat.reduceEqDiff];refine Au (σ:=Nat × List (BitVec 64)) (fun i=>i.1≤24∧i.2=RO s i.1) (fun i=>fr 270 [(1,.ptr 0 []),(2,.ptr 1 []),(27,.ar 1 24 (ws rc)),(28,.int .i64 i.1)])
  (fun i=>[(0,.ar 1 25 (ws i.2)),(1,.ar 1 25 (fun _=>W 0))]) (fun _=>2) (fun i=>24 - i.1) (0,s) ⟨by simp,rfl⟩ ?_ ?_
 ·refine Av.fr [0,16] [] hx Bg Ab ?_ ?_
  ·simp only [P8,Nat.reduceLT,reduceCtorEq,Nat.reduceEqDiff];exact ⟨fun _ _=>trivial,rfl⟩
  ·simp only [P8,Nat.reduceLT,reduceCtorEq,Nat.reduceEqDiff];exact ⟨⟨rfl,fun _ _=>trivial⟩,fun _ _=>by simp only [W,Aw];rfl⟩
 ·intro i ⟨hi,hii⟩;refine es 40 ?_;simp (maxSteps:=2000000) only [GR,↓Ax,ex,Ro,Cr,Dy,Ag,Nat.reduceLT,Int.reduceLE,Int.reduceLT,Nat.reducePow,Nat.reduceAnd,Nat.reduceOr,Nat.reduceShiftRight,Int.reduceToNat,reduceCtorEq,Nat.reduceAdd,Nat.reduceMul,Nat.reduceSub,Nat.reduceBEq,Nat.reduceEqDiff];refine ⟨fun hlt=>?_,fun hge=>?_⟩
  ·have hlt:(i.1:Int) < 24:=by simpa using hlt
   refine ⟨⟨by omega,by omega⟩,?_⟩;refine BT (DI hrot _ 1 Aa) ⟨rfl,rfl,trivial⟩ rfl ?_;simp (maxSteps:=2000000) only [GR,↓Ax,ex,Ro,Cr,Dy,Ag,Nat.reduceLT,Int.reduceLE,Int.reduceLT,Nat.reducePow,Nat.reduceAnd,Nat.reduceOr,Nat.reduceShiftRight,Int.reduceToNat,reduceCtorEq,Nat.reduceAdd,Nat.reduceMul,Nat.reduceSub,Nat.reduceBEq,Nat.reduceEqDiff];refine BT (DI hrot _ 1 Aa) ⟨rfl,rfl,trivial⟩ rfl ?_;simp (maxSteps:=2000000) only [GR,↓Ax,ex,Ro,Cr,Dy,Ag,Nat.reduceLT,Int.reduceLE,Int.reduceLT,Nat.reducePow,Nat.reduceAnd,Nat.reduceOr,Nat.reduceShiftRight,Int.reduceToNat,reduceCtorEq,Nat.reduceAdd,Nat.reduceMul,Nat.reduceSub,Nat.reduceBEq,Nat.reduceEqDiff];refine BT (DI hrot _ 1 Aa) ⟨rfl,rfl,trivial⟩ rfl ?_;simp (maxSteps:=2000000) only [GR,↓Ax,ex,Ro,Cr,Dy,Ag,Nat.reduceLT,Int.reduceLE,Int.reduceLT,Nat.reducePow,Nat.reduceAnd,Nat.reduceOr,Nat.reduceShiftRight,Int.reduceToNat,reduceCtorEq,Nat.reduceAdd,Nat.reduceMul,Nat.reduceSub,Nat.reduceBEq,Nat.reduceEqDiff];refine BT (DI hrot _ 1 Aa) ⟨rfl,rfl,trivial⟩ rfl ?_;simp (maxSteps:=2000000) only [GR,↓Ax,ex,Ro,Cr,Dy,Ag,Nat.reduceLT,Int.reduceLE,Int.reduceLT,Nat.reducePow,Nat.reduceAnd,Nat.reduceOr,Nat.reduceShiftRight,Int.reduceToNat,reduceCtorEq,Nat.reduceAdd,Nat.reduceMul,Nat.reduceSub,Nat.reduceBEq,Nat.reduceEqDiff];refine BT (DI hrot _ 1 Aa) ⟨rfl,rfl,trivial⟩ rfl ?_;simp (maxSteps:=2000000) only [GR,↓Ax,ex,Ro,Cr,Dy,Ag,Nat.reduceLT,Int.reduceLE,Int.reduceLT,Nat.reducePow,Nat.reduceAnd,Nat.reduceOr,Nat.reduceShiftRight,Int.reduceToNat,reduceCtorEq,Nat.reduceAdd,Nat.reduceMul,Nat.reduceSub,Nat.reduceBEq,Nat.reduceEqDiff];refine Au (σ:=Nat) (fun q=>q≤5) (fun q=>fr 270 [(1,.ptr 0 []),(2,.ptr 1 []),(4,W (rc.getD i.1 0)),(10,W (V3 i.2 0)),(11,W (V3 i.2 1)),(12,W (V3 i.2 2)),(13,W (V3 i.2 3)),(14,W (V3 i.2 4)),(15,.int .i64 (5 * q:Nat)),(27,.ar 1 24 (ws rc)),(28,.int .i64 i.1)])
    (fun q=>[(0,.ar 1 25 (fun j=>W (On i.2 q j))),(1,.ar 1 25 (fun _=>W 0))]) (fun _=>2) (fun q=>5 - q) 0 Aa ?_ ?_
   ·refine Av.fr [0,1] [] hx Bg Ab ?_ ?_
    ·simp only [P8,Nat.reduceLT,reduceCtorEq,Nat.reduceEqDiff];exact ⟨rfl,rfl,rfl,rfl,rfl,rfl,fun _ _=>trivial⟩
    ·simp only [P8,Nat.reduceLT,reduceCtorEq,Nat.reduceEqDiff];exact ⟨fun j _=>by simp [On],rfl,fun _ _=>trivial⟩
   ·intro q hq;refine es 40 ?_;simp (maxSteps:=2000000) only [GR,↓Ax,ex,Ro,Cr,Dy,Ag,Nat.reduceLT,Int.reduceLE,Int.reduceLT,Nat.reducePow,Nat.reduceAnd,Nat.reduceOr,Nat.reduceShiftRight,Int.reduceToNat,reduceCtorEq,Nat.reduceAdd,Nat.reduceMul,Nat.reduceSub,Nat.reduceBEq,Nat.reduceEqDiff];refine ⟨fun hlt2=>?_,fun hge2=>?_⟩
    ·have hlt2:((5 * q:Nat):Int) < 25:=by simpa using hlt2
     refine ⟨by omega,by omega,by omega,by omega,by omega,by omega,by omega,by omega,by omega,by omega,by omega,by omega,by omega,by omega,by omega,by omega,by omega,q + 1,by omega,by omega,?_⟩;have w1:IntKind.i64.wrap (((5 * q:Nat):Int) + 5)=((5 * (q + 1):Nat):Int):=B7;refine Av.fr [0,1] [] hx Bg Ab ?_ ?_
     ·simp only [P8,Nat.reduceLT,reduceCtorEq,Nat.reduceEqDiff,w1];exact fun _ _=>trivial
     ·simp only [P8,Nat.reduceLT,reduceCtorEq,Nat.reduceEqDiff];exact ⟨fun j _=>Yd _ _ _,rfl,fun _ _=>trivial⟩
    ·have hge2:¬ ((5 * q:Nat):Int) < 25:=by simpa using hge2
     have hq5:q=5:=Aa;subst hq5;refine Au (σ:=Nat) (fun p=>p≤24) (fun p=>fr 270 [(1,.ptr 0 []),(2,.ptr 1 []),(4,W (rc.getD i.1 0)),(17,W (Tq (th i.2) p).1),(27,.ar 1 24 (ws rc)),(28,.int .i64 i.1),(175,.ar 1 24 (fun i=>.int .i64 (lanes.getD i 0))),(176,.int .i64 p)])
      (fun p=>[(0,.ar 1 25 (ws (Tq (th i.2) p).2)),(1,.ar 1 25 (fun _=>W 0))]) (fun _=>2) (fun p=>24 - p) 0 Aa ?_ ?_
     ·refine Av.fr [0,1] [] hx Bg Ab ?_ ?_
      ·simp only [P8,Nat.reduceLT,reduceCtorEq,Nat.reduceEqDiff];exact ⟨(Afx _ 1 Aa).symm,fun _ _=>trivial,fun _ _=>trivial,rfl⟩
      ·simp only [P8,Nat.reduceLT,reduceCtorEq,Nat.reduceEqDiff];exact ⟨fun j hj=>(Afx _ j hj).symm,rfl,fun _ _=>trivial⟩
     ·intro p hp;refine es 40 ?_;simp (maxSteps:=2000000) only [GR,↓Ax,ex,Ro,Cr,Dy,Ag,Nat.reduceLT,Int.reduceLE,Int.reduceLT,Nat.reducePow,Nat.reduceAnd,Nat.reduceOr,Nat.reduceShiftRight,Int.reduceToNat,reduceCtorEq,Nat.reduceAdd,Nat.reduceMul,Nat.reduceSub,Nat.reduceBEq,Nat.reduceEqDiff];refine ⟨fun hlt3=>?_,fun hge3=>?_⟩
      ·have hlt3:(p:Int) < 24:=by simpa using hlt3
       have ht:=Xi p Aa;have hl:=Wa p Aa;have ht2:turns.getD p 0=((turns.getD p 0).toNat:Int):=Aa;have hcall:=DI hrot (Tq (th i.2) p).1 (turns.getD p 0).toNat Aa;rw [← ht2] at hcall;refine ⟨⟨by omega,by omega⟩,⟨⟨by omega,by omega⟩,by omega⟩,_,_,BT hcall ⟨rfl,rfl,trivial⟩ rfl ⟨rfl,rfl⟩,?_⟩;simp (maxSteps:=2000000) only [GR,↓Ax,ex,Ro,Cr,Dy,Ag,Nat.reduceLT,Int.reduceLE,Int.reduceLT,Nat.reducePow,Nat.reduceAnd,Nat.reduceOr,Nat.reduceShiftRight,Int.reduceToNat,reduceCtorEq,Nat.reduceAdd,Nat.reduceMul,Nat.reduceSub,Nat.reduceBEq,Nat.reduceEqDiff];refine ⟨hl,by omega,⟨by omega,by omega⟩,hl,by omega,p + 1,by omega,by omega,?_⟩;have w1:IntKind.i64.wrap ((p:Int) + 1)=((p + 1:Nat):Int):=B7;refine Av.fr [0,1] [] hx Bg Ab ?_ ?_
       ·simp only [P8,Nat.reduceLT,reduceCtorEq,Nat.reduceEqDiff,w1];exact ⟨rfl,fun _ _=>trivial⟩
       ·simp only [P8,Nat.reduceLT,reduceCtorEq,Nat.reduceEqDiff];exact ⟨fun j hj=>(Ah5 _ _ _ _ (by rw [RN _ (Ags _)];omega)).symm,rfl,fun _ _=>trivial⟩
      ·have hge3:¬ (p:Int) < 24:=by simpa using hge3
       have hp24:p=24:=Aa;subst hp24;refine Au (σ:=Nat) (fun q=>q≤5) (fun q=>fr 270 [(1,.ptr 0 []),(2,.ptr 1 []),(4,W (rc.getD i.1 0)),(20,.int .i64 (5 * q:Nat)),(27,.ar 1 24 (ws rc)),(28,.int .i64 i.1)])
        (fun q=>[(0,.ar 1 25 (fun j=>W (Hi (Tq (th i.2) 24).2 q j))),(1,.ar 1 25 (fun _=>W 0))]) (fun _=>2) (fun q=>5 - q) 0 Aa ?_ ?_
       ·refine Av.fr [0,1] [] hx Bg Ab ?_ ?_
        ·simp only [P8,Nat.reduceLT,reduceCtorEq,Nat.reduceEqDiff];exact ⟨rfl,fun _ _=>trivial⟩
        ·simp only [P8,Nat.reduceLT,reduceCtorEq,Nat.reduceEqDiff];exact ⟨fun j _=>by simp [Hi],rfl,fun _ _=>trivial⟩
       ·intro q hq;refine es 40 ?_;simp (maxSteps:=2000000) only [GR,↓Ax,ex,Ro,Cr,Dy,Ag,Nat.reduceLT,Int.reduceLE,Int.reduceLT,Nat.reducePow,Nat.reduceAnd,Nat.reduceOr,Nat.reduceShiftRight,Int.reduceToNat,reduceCtorEq,Nat.reduceAdd,Nat.reduceMul,Nat.reduceSub,Nat.reduceBEq,Nat.reduceEqDiff];refine ⟨fun hlt4=>?_,fun hge4=>?_⟩
        ·have hlt4:((5 * q:Nat):Int) < 25:=by simpa using hlt4
         refine ⟨by omega,by omega,by omega,by omega,by omega,by omega,by omega,by omega,by omega,by omega,by omega,by omega,by omega,by omega,by omega,by omega,by omega,q + 1,by omega,by omega,?_⟩;have w1:IntKind.i64.wrap (((5 * q:Nat):Int) + 5)=((5 * (q + 1):Nat):Int):=B7;refine Av.fr [0,1] [] hx Bg Ab ?_ ?_
         ·simp only [P8,Nat.reduceLT,reduceCtorEq,Nat.reduceEqDiff,w1];exact fun _ _=>trivial
         ·simp only [P8,Nat.reduceLT,reduceCtorEq,Nat.reduceEqDiff];exact ⟨fun j _=>Y2 _ _ _,rfl,fun _ _=>trivial⟩
        ·have hge4:¬ ((5 * q:Nat):Int) < 25:=by simpa using hge4
         have hq5:q=5:=Aa;subst hq5;have w1:IntKind.i64.wrap ((i.1:Int) + 1)=((i.1 + 1:Nat):Int):=B7;refine ⟨(i.1 + 1,rnd i.2 i.1),⟨by simp only;omega,by simp only [RO,hii]⟩,by simp only;omega,?_⟩;refine Av.fr [0,1] [] hx Bg Ab ?_ ?_
         ·simp only [P8,Nat.reduceLT,reduceCtorEq,Nat.reduceEqDiff,w1];exact fun _ _=>trivial
         ·simp only [P8,Nat.reduceLT,reduceCtorEq,Nat.reduceEqDiff];exact ⟨fun j hj=>(Akt _ _ _ hj).symm,rfl,fun _ _=>trivial⟩
  ·have hge:¬ (i.1:Int) < 24:=by simpa using hge
   have hi24:i.1=24:=Aa;refine Ay.mk hx [] [] (.ar 1 25 (ws (Aa5 s))) [] 0 Ab ?_ ?_ ?_ ⟨rfl,rfl,rfl⟩
   ·simp only [EO,H9,GR,↓Ax,ex,Ro,Cr,Dy,Ag,Nat.reduceLT,Int.reduceLE,Int.reduceLT,Nat.reducePow,Nat.reduceAnd,Nat.reduceOr,Nat.reduceShiftRight,Int.reduceToNat,reduceCtorEq,Nat.reduceAdd,Nat.reduceMul,Nat.reduceSub,Nat.reduceBEq,Nat.reduceEqDiff]
   ·simp only [EO,Ez,GR,↓Ax,ex,Ro,Cr,Dy,Ag,Nat.reduceLT,Int.reduceLE,Int.reduceLT,Nat.reducePow,Nat.reduceAnd,Nat.reduceOr,Nat.reduceShiftRight,Int.reduceToNat,reduceCtorEq,Nat.reduceAdd,Nat.reduceMul,Nat.reduceSub,Nat.reduceBEq,Nat.reduceEqDiff,LS,La4];intro j hj;rw [hii,hi24,Aa5]
   ·trivial
variable {M:Seat}
def N2 (s:List (BitVec 64)) (p:Nat→BitVec 8):List (BitVec 64):=Aa5 (mix s p)
theorem GF (ok:OkM M) (s:List (BitVec 64)) (p:Nat→BitVec 8) :
 As M 318 [.ar 1 25 (ws s),.lst 1 136 (fun j=>B (p j))] [] 0 (Q3 (.ar 1 25 (ws (N2 s p))) [] 0):=by
 refine Ac ok.k318 rfl fun x hx=>?_;refine es 30 ?_;simp only [Akk,Aok,GR,↓Ax,ex,Ro,Cr,Dy,Ag,Nat.reduceLT,Int.reduceLE,Int.reduceLT,Nat.reducePow,Nat.reduceAnd,Nat.reduceOr,Nat.reduceShiftRight,Int.reduceToNat,reduceCtorEq,Nat.reduceAdd,Nat.reduceMul,Nat.reduceSub,Nat.reduceBEq,Nat.reduceEqDiff];refine Au (σ:=Nat) (fun i=>i≤17) (fun i=>fr 38 [(1,.lst 1 136 (fun j=>B (p j))),(2,.ptr 0 []),(4,.ptr 1 []),(8,.int .i64 i)])
  (fun i=>[(0,.ar 1 25 (fun j=>W (SC s p i 0 j))),(1,.ar 1 25 (fun _=>W 0))]) (fun _=>2) (fun i=>17 - i) 0 Aa ?_ ?_
 ·refine Av.fr [0,16] [] hx Bg Ab ?_ ?_
  ·simp only [Me,Nat.reduceLT,reduceCtorEq,Nat.reduceEqDiff,Nat.reduceLeDiff,Nat.reduceBEq]
  ·simp only [Me,Nat.reduceLT,reduceCtorEq,Nat.reduceEqDiff,Nat.reduceLeDiff,Nat.reduceBEq];exact ⟨fun j _=>(Anr _ _ _).symm,fun _ _=>by simp only [W,Aw];rfl⟩
 ·intro i hi;refine es 40 ?_;simp only [GR,↓Ax,ex,Ro,Cr,Dy,Ag,Nat.reduceLT,Int.reduceLE,Int.reduceLT,Nat.reducePow,Nat.reduceAnd,Nat.reduceOr,Nat.reduceShiftRight,Int.reduceToNat,reduceCtorEq,Nat.reduceAdd,Nat.reduceMul,Nat.reduceSub,Nat.reduceBEq,Nat.reduceEqDiff];refine ⟨fun hlt=>?_,fun hge=>?_⟩
  ·have hlt:(i:Int) < 17:=by simpa using hlt
   have w1:IntKind.i64.wrap (8 * (i:Int))=8 * i:=AR Aa;have w2:IntKind.i64.wrap (8 * (i:Int) + 8)=8 * i + 8:=AR Aa;simp only [w1,w2];refine ⟨⟨by omega,by omega,by omega⟩,?_⟩;refine Au (σ:=Nat) (fun k=>k≤8) (fun k=>fr 38 [(1,.lst 1 136 (fun j=>B (p j))),(2,.ptr 0 []),(4,.ptr 1 []),(5,.int .i64 i),(8,.int .i64 i),(17,.lst 1 8 (fun j=>B (p (8 * i + j)))),(18,.int .i64 8),(19,.int .i64 k)])
    (fun k=>[(0,.ar 1 25 (fun j=>W (SC s p i k j))),(1,.ar 1 25 (fun _=>W 0))]) (fun _=>2) (fun k=>8 - k) 0 Aa ?_ ?_
   ·refine Av.fr [0,1] [] hx Bg Ab ?_ ?_
    ·simp only [Me,Nat.reduceLT,reduceCtorEq,Nat.reduceEqDiff,Nat.reduceLeDiff,Nat.reduceBEq];refine ⟨⟨by omega,fun j _=>?_⟩,by omega⟩;have e1:(8 * (i:Int)).toNat=8 * i:=Aa;rw [e1]
    ·simp only [Me,Nat.reduceLT,reduceCtorEq,Nat.reduceEqDiff,Nat.reduceLeDiff,Nat.reduceBEq]
   ·intro k hk;(refine es 40 ?_;simp (maxSteps:=2000000) only [W0,↓Ax,ex,Ro,Cr,Dy,Ag,Nat.reduceLT,Int.reduceLE,Int.reduceLT,Nat.reducePow,Nat.reduceAnd,Nat.reduceOr,Nat.reduceShiftRight,Int.reduceToNat,reduceCtorEq,Nat.reduceAdd,Nat.reduceMul,Nat.reduceSub,Nat.reduceBEq,Nat.reduceEqDiff]);refine ⟨fun hlt2=>?_,fun hge2=>?_⟩
    ·have hlt2:(k:Int) < 8:=by simpa using hlt2
     have w3:IntKind.i64.wrap (8 * (k:Int))=8 * k:=AR Aa;have w4:IntKind.i64.wrap ((k:Int) + 1)=((k + 1:Nat):Int):=B7;have w5:(8 * (k:Int)).toNat=8 * k:=Aa;simp only [w3,w4,w5];refine ⟨⟨by omega,by omega⟩,⟨by omega,by omega⟩,by omega,by omega,by omega,⟨by omega,by omega⟩,by omega,k + 1,by omega,by omega,?_⟩;refine Av.fr [0,1] [] hx Bg Ab ?_ ?_
     ·simp only [Me,Nat.reduceLT,reduceCtorEq,Nat.reduceEqDiff,Nat.reduceLeDiff,Nat.reduceBEq]
     ·simp only [Me,Nat.reduceLT,reduceCtorEq,Nat.reduceEqDiff,Nat.reduceLeDiff,Nat.reduceBEq];exact fun j _=>Al8 _ _ _ _ _
    ·have hge2:¬ (k:Int) < 8:=by simpa using hge2
     have hk8:k=8:=Aa;subst hk8;have w4:IntKind.i64.wrap ((i:Int) + 1)=((i + 1:Nat):Int):=B7;refine ⟨i + 1,by omega,by omega,?_⟩;refine Av.fr [0,1] [] hx Bg Ab ?_ ?_
     ·simp only [Me,Nat.reduceLT,reduceCtorEq,Nat.reduceEqDiff,Nat.reduceLeDiff,Nat.reduceBEq,w4]
     ·simp only [Me,Nat.reduceLT,reduceCtorEq,Nat.reduceEqDiff,Nat.reduceLeDiff,Nat.reduceBEq];exact fun j _=>Ant _ _ _ _
  ·have hge:¬ (i:Int) < 17:=by simpa using hge
   have hi17:i=17:=Aa;subst hi17;refine BT (MJ ok.k417 ok.k462 (mix s p)) ⟨?_,trivial⟩ rfl ?_
   ·simp only [Me,Nat.reduceLT,reduceCtorEq,Nat.reduceEqDiff,Nat.reduceLeDiff,Nat.reduceBEq];exact fun j hj=>(Af9 _ _ _ hj).symm
   simp only [GR,↓Ax,ex,Ro,Cr,Dy,Ag,Nat.reduceLT,Int.reduceLE,Int.reduceLT,Nat.reducePow,Nat.reduceAnd,Nat.reduceOr,Nat.reduceShiftRight,Int.reduceToNat,reduceCtorEq,Nat.reduceAdd,Nat.reduceMul,Nat.reduceSub,Nat.reduceBEq,Nat.reduceEqDiff];refine Ay.mk hx [] [] (.ar 1 25 (ws (N2 s p))) [] 0 Ab ?_ ?_ trivial ⟨rfl,rfl,rfl⟩
   ·simp only [EO,H9,GR,↓Ax,ex,Ro,Cr,Dy,Ag,Nat.reduceLT,Int.reduceLE,Int.reduceLT,Nat.reducePow,Nat.reduceAnd,Nat.reduceOr,Nat.reduceShiftRight,Int.reduceToNat,reduceCtorEq,Nat.reduceAdd,Nat.reduceMul,Nat.reduceSub,Nat.reduceBEq,Nat.reduceEqDiff]
   ·simp only [La6,LR,↓Ax,ex,Ro,Cr,Dy,Ag,Nat.reduceLT,Int.reduceLE,Int.reduceLT,Nat.reducePow,Nat.reduceAnd,Nat.reduceOr,Nat.reduceShiftRight,Int.reduceToNat,reduceCtorEq,Nat.reduceAdd,Nat.reduceMul,Nat.reduceSub,Nat.reduceBEq,Nat.reduceEqDiff,Nat.reduceLeDiff];exact fun _ _=>rfl
theorem I2 (ok:OkM M) (s:List (BitVec 64)) :
 As M 317 [.ar 1 25 (ws s)] [] 0 (Q3 (dg (dig s)) [] 0):=by
 refine Ac ok.k317 rfl fun x hx=>?_;refine es 30 ?_;simp only [Aha,Anu,GR,↓Ax,ex,Ro,Cr,Dy,Ag,Nat.reduceLT,Int.reduceLE,Int.reduceLT,Nat.reducePow,Nat.reduceAnd,Nat.reduceOr,Nat.reduceShiftRight,Int.reduceToNat,reduceCtorEq,Nat.reduceAdd,Nat.reduceMul,Nat.reduceSub,Nat.reduceBEq,Nat.reduceEqDiff];refine Au (σ:=Nat) (fun i=>i≤32) (fun i=>fr 21 [(1,.ptr 0 []),(2,.ptr 1 []),(3,.ptr 2 []),(5,.int .i64 i)])
  (fun i=>[(0,.ar 1 25 (ws s)),(1,.ar 1 32 (fun _=>B 0)),(2,.ar 1 32 (fun j=>B (if j < i then (dig s).at j else 0)))]) (fun _=>3) (fun i=>32 - i) 0 Aa ?_ ?_
 ·refine Av.fr [0,16,32] [] hx Bg Ab ?_ ?_
  ·simp only [Me,Nat.reduceLT,reduceCtorEq,Nat.reduceEqDiff,Nat.reduceLeDiff,Nat.reduceBEq]
  ·simp only [Me,Nat.reduceLT,reduceCtorEq,Nat.reduceEqDiff,Nat.reduceLeDiff,Nat.reduceBEq];exact ⟨fun _ _=>by simp only [B,Aw];rfl,fun _ _=>by rw [if_neg Aa];simp only [B,Aw];rfl⟩
 ·intro i hi;(refine es 40 ?_;simp (maxSteps:=2000000) only [W0,↓Ax,ex,Ro,Cr,Dy,Ag,Nat.reduceLT,Int.reduceLE,Int.reduceLT,Nat.reducePow,Nat.reduceAnd,Nat.reduceOr,Nat.reduceShiftRight,Int.reduceToNat,reduceCtorEq,Nat.reduceAdd,Nat.reduceMul,Nat.reduceSub,Nat.reduceBEq,Nat.reduceEqDiff]);refine ⟨fun hlt=>?_,fun hge=>?_⟩
  ·have hlt:(i:Int) < 32:=by simpa using hlt
   have w1:IntKind.i64.wrap ((i:Int) + 1)=((i + 1:Nat):Int):=B7;have w2:IntKind.i64.wrap ((i:Int).tdiv 8)=((i / 8:Nat):Int):=by rw [Int.tdiv_eq_ediv_of_nonneg Aa,AR Aa];omega
   have w3:IntKind.i64.wrap (8 * (i:Int).tmod 8)=((8 * (i % 8):Nat):Int):=by rw [Int.tmod_eq_emod_of_nonneg Aa,AR Aa];omega
   simp only [w1,w2,w3,Int.toNat_natCast];refine ⟨by omega,⟨by omega,by omega⟩,by omega,by omega,by omega,⟨by omega,by omega⟩,by omega,i + 1,by omega,by omega,?_⟩;refine Av.fr [0,1,2] [] hx Bg Ab ?_ ?_
   ·simp only [Me,Nat.reduceLT,reduceCtorEq,Nat.reduceEqDiff,Nat.reduceLeDiff,Nat.reduceBEq]
   ·simp only [Me,Nat.reduceLT,reduceCtorEq,Nat.reduceEqDiff,Nat.reduceLeDiff,Nat.reduceBEq];intro j hj;by_cases hji:j=i
    ·subst hji;rw [if_pos rfl,if_pos Aa,dig,Dg.at_mk' _ _ hj]
    ·rw [if_neg hji];by_cases h2:j < i
     ·rw [if_pos h2,if_pos Aa]
     ·rw [if_neg h2,if_neg Aa]
  ·have hge:¬ (i:Int) < 32:=by simpa using hge
   have hi17:i=32:=Aa;subst hi17;refine Ay.mk hx [] [] (dg (dig s)) [] 0 Ab ?_ ?_ trivial ⟨rfl,rfl,rfl⟩
   ·simp only [EO,H9,GR,↓Ax,ex,Ro,Cr,Dy,Ag,Nat.reduceLT,Int.reduceLE,Int.reduceLT,Nat.reducePow,Nat.reduceAnd,Nat.reduceOr,Nat.reduceShiftRight,Int.reduceToNat,reduceCtorEq,Nat.reduceAdd,Nat.reduceMul,Nat.reduceSub,Nat.reduceBEq,Nat.reduceEqDiff]
   ·simp only [La6,LR,↓Ax,ex,Ro,Cr,Dy,Ag,Nat.reduceLT,Int.reduceLE,Int.reduceLT,Nat.reducePow,Nat.reduceAnd,Nat.reduceOr,Nat.reduceShiftRight,Int.reduceToNat,reduceCtorEq,Nat.reduceAdd,Nat.reduceMul,Nat.reduceSub,Nat.reduceBEq,Nat.reduceEqDiff,Nat.reduceLeDiff,dg];intro j hj;rw [if_pos hj]
def Ajh (a b:Dg):Dg:=dig (N2 (List.replicate 25 0) (pad a b))
theorem Aao (a b:Dg) (j:Nat):(if j=135 then V.int .u8 128 else if j=64 then V.int .u8 1 else if 32≤j∧j < 32 + min 32 104 then B (b.at (j - 32)) else if 0≤j∧j < min 32 136 then B (a.at (j - 0)) else V.int .u8 0)=B (pad a b j):=by
 have h1:V.int .u8 128=B 128:=rfl;have h2:V.int .u8 1=B 1:=rfl;have h3:V.int .u8 0=B 0:=rfl;simp only [h1,h2,h3,Lz,pad]
 congr 1
 repeat' split
 all_goals first | rfl | omega
theorem Ti (ok:OkM M) (a b:Dg) :
 As M 207 [dg a,dg b] [] 0 (Q3 (dg (Ajh a b)) [] 0):=by
 refine Ac ok.k207 rfl fun x hx=>?_;refine es 30 ?_;simp only [Ahr,Anm,dg,GR,↓Ax,ex,Ro,Cr,Dy,Ag,Nat.reduceLT,Int.reduceLE,Int.reduceLT,Nat.reducePow,Nat.reduceAnd,Nat.reduceOr,Nat.reduceShiftRight,Int.reduceToNat,reduceCtorEq,Nat.reduceAdd,Nat.reduceMul,Nat.reduceSub,Nat.reduceBEq,Nat.reduceEqDiff];first | refine ⟨⟨by omega,by omega⟩,⟨by omega,by omega⟩,?_,?_,?_⟩ | refine ⟨?_,?_,?_⟩
 ·rw [if_neg Aa,if_neg Aa];rfl
 ·rw [if_neg Aa,if_neg Aa];rfl
 refine Qu [48] (GF ok (List.replicate 25 0) (pad a b)) ?_ rfl ?_
 ·simp only [Me,Nat.reduceLT,reduceCtorEq,Nat.reduceEqDiff,Nat.reduceLeDiff,Nat.reduceBEq,Aao];intro j hj;have e1:(List.replicate 25 (0:BitVec 64)).getD j 0=0:=by rw [List.getD,List.getElem?_replicate,if_pos hj];rfl
  rw [e1];simp only [W,Aw];rfl
 simp only [AH,GR,↓Ax,ex,Ro,Cr,Dy,Ag,Nat.reduceLT,Int.reduceLE,Int.reduceLT,Nat.reducePow,Nat.reduceAnd,Nat.reduceOr,Nat.reduceShiftRight,Int.reduceToNat,reduceCtorEq,Nat.reduceAdd,Nat.reduceMul,Nat.reduceSub,Nat.reduceBEq,Nat.reduceEqDiff];refine BT (I2 ok (N2 (List.replicate 25 0) (pad a b))) ?_ rfl ?_
 ·simp only [Me,Nat.reduceLT,reduceCtorEq,Nat.reduceEqDiff,Nat.reduceLeDiff,Nat.reduceBEq]
 simp only [dg,GR,↓Ax,ex,Ro,Cr,Dy,Ag,Nat.reduceLT,Int.reduceLE,Int.reduceLT,Nat.reducePow,Nat.reduceAnd,Nat.reduceOr,Nat.reduceShiftRight,Int.reduceToNat,reduceCtorEq,Nat.reduceAdd,Nat.reduceMul,Nat.reduceSub,Nat.reduceBEq,Nat.reduceEqDiff];refine Ay.mk hx [] [] (dg (Ajh a b)) [] 0 Ab ?_ ?_ trivial ⟨rfl,rfl,rfl⟩
 ·simp only [EO,H9,GR,↓Ax,ex,Ro,Cr,Dy,Ag,Nat.reduceLT,Int.reduceLE,Int.reduceLT,Nat.reducePow,Nat.reduceAnd,Nat.reduceOr,Nat.reduceShiftRight,Int.reduceToNat,reduceCtorEq,Nat.reduceAdd,Nat.reduceMul,Nat.reduceSub,Nat.reduceBEq,Nat.reduceEqDiff]
 ·simp only [La6,LR,↓Ax,ex,Ro,Cr,Dy,Ag,Nat.reduceLT,Int.reduceLE,Int.reduceLT,Nat.reducePow,Nat.reduceAnd,Nat.reduceOr,Nat.reduceShiftRight,Int.reduceToNat,reduceCtorEq,Nat.reduceAdd,Nat.reduceMul,Nat.reduceSub,Nat.reduceBEq,Nat.reduceEqDiff,Nat.reduceLeDiff,dg];exact fun _ _=>rfl
end Mv
