/- A part. -/
import Derived.Test.YtncipgmjhaiagaaGreatDoorGO
set_option linter.all false
set_option maxRecDepth 20000
set_option maxHeartbeats 4000000
namespace Mv
open Go
structure OkM (M:Seat):Prop where
 k49:Al M 49 f49=true
 k50:Al M 50 f50=true
 k51:Al M 51 f51=true
 k52:Al M 52 f52=true
 k53:Al M 53 f53=true
 k74:Al M 74 f74=true
 k197:Al M 197 Ai5=true
 k198:Al M 198 Ae4=true
 k200:Al M 200 Ai6=true
 k201:Al M 201 Afc=true
 k207:Al M 207 Ah5=true
 k315:Al M 315 Ahy=true
 k316:Al M 316 Aee=true
 k317:Al M 317 Afs=true
 k318:Al M 318 Afi=true
 k312:Al M 312 UJ=true
 k417:Al M 417 Ac0=true
 k462:Al M 462 UX=true
 k199:Al M 199 Ael=true
 k202:Al M 202 Ag5=true
structure OkA (M:Seat):Prop extends OkM M where
 k196:Al M 196 Qz=true
instance {M:Seat}:Coe (OkA M) (OkM M):=⟨OkA.toOkM⟩
theorem Xt {M:Seat} (hc:Al M 462 UX=true) (x k:Nat) (hx:x < 18446744073709551616) (hk:k < 64) :
 Af M 462 [.int .u64 x,.int .i64 k] [] 0 (Q3 (.int .u64 (TI x k:Nat)) [] 0):=by
 refine Ac hc rfl fun c hck=>?_
 refine es 30 ?_
 simp only [UX,Akl,Fe,↓Ab,ex,Ro,AC,A5,Ad,seval]
 have w1:IntKind.u64.wrap ((k:Nat):Int)=(k:Nat):=Cy Aa
 have w2:IntKind.u64.wrap ((BitVec.ofInt IntKind.u64.bits ((k:Nat):Int) &&& BitVec.ofInt IntKind.u64.bits 63).toNat:Int)=((k:Nat):Int):=by
  have h:=S1 (a:=k) (b:=63) Aa Aa
  have h2:k &&& 63=k:=by
   have h3:=Nat.and_two_pow_sub_one_eq_mod k 6
   have h4:k &&& 63=k % 2 ^ 6:=h3
   omega
  rw [h2] at h
  exact h
 have w3:IntKind.u64.wrap (64 - ((k:Nat):Int))=((64 - k:Nat):Int):=by rw [Cy Aa];omega
 have w4:=Acr (a:=x) (k:=k) hk
 have w5:=Aam (a:=x) (k:=64 - k) Aa
 simp only [w1,w2,w3,w4,w5]
 have hl:=Acd (k:=k) hx
 have w6:=VO (a:=x <<< k % 18446744073709551616) (b:=x >>> (64 - k)) (Nat.mod_lt _ Aa) (by
  rw [Nat.shiftRight_eq_div_pow]
  exact Nat.lt_of_le_of_lt (Nat.div_le_self _ _) hx)
 simp only [w6]
 refine ⟨by omega,by omega,?_⟩
 refine Aq.mk hck [] [] (.int .u64 (TI x k:Nat)) [] 0 Ak ?_ ?_ trivial ⟨rfl,rfl,rfl⟩
 ·simp [DS,Ig]
 ·simp only [DS,Ek,Ea,Je,ne_eq,not_false_eq_true,seval,Bd,Aw,TI]
theorem D8 {M:Seat} (hc:Al M 462 UX=true) (x:BitVec 64) (k:Nat) (hk:k < 64) :
 Af M 462 [W x,.int .i64 k] [] 0 (Q3 (W (Qk x k)) [] 0):=by
 have h:=Xt hc x.toNat k (OR x) hk
 simp only [Oq] at h
 exact h
def par (s:List (BitVec 64)) (x:Nat):BitVec 64:=s.getD x 0 ^^^ s.getD (x + 5) 0 ^^^ s.getD (x + 10) 0 ^^^ s.getD (x + 15) 0 ^^^ s.getD (x + 20) 0
def QJ (s:List (BitVec 64)) (x:Nat):BitVec 64:=par s ((x + 4) % 5) ^^^ Qk (par s ((x + 1) % 5)) 1
def Jm (s:List (BitVec 64)) (q j:Nat):BitVec 64:=if j < 5 * q then s.getD j 0 ^^^ QJ s (j % 5) else s.getD j 0
def th (s:List (BitVec 64)):List (BitVec 64):=(List.range 25).map (Jm s 5)
theorem Sg (s:List (BitVec 64)) (j:Nat) (hj:j < 25):(th s).getD j 0=Jm s 5 j:=by
 simp [th,List.getD,List.getElem?_map,List.getElem?_range hj]
def Kv (a:List (BitVec 64)):Nat→BitVec 64 × List (BitVec 64)
 | 0=>(a.getD 1 0,a)
 | p + 1=>((Kv a p).2.getD (lanes.getD p 0).toNat 0,(Kv a p).2.set (lanes.getD p 0).toNat (Qk (Kv a p).1 (turns.getD p 0).toNat))
theorem Q8 (s:List (BitVec 64)):(th s).length=25:=by simp [th]
theorem Nk (a:List (BitVec 64)) (ha:a.length=25):∀ p,(Kv a p).2.length=25
 | 0=>ha
 | p + 1=>by simp only [Kv,List.length_set];exact Nk a ha p
theorem W2 (l:List (BitVec 64)) (t:Nat) (v:BitVec 64) (j:Nat) (ht:t < l.length):(l.set t v).getD j 0=if j=t then v else l.getD j 0:=by
 by_cases h:j=t
 ·subst h;simp [List.getD,ht]
 ·simp [List.getD,List.getElem?_set_ne (Ne.symm h),h]
def Gd (b:List (BitVec 64)) (q j:Nat):BitVec 64 :=
 if j < 5 * q then b.getD j 0 ^^^ (~~~ b.getD (5 * (j / 5) + (j + 1) % 5) 0 &&& b.getD (5 * (j / 5) + (j + 2) % 5) 0) else b.getD j 0
theorem WI (s:List (BitVec 64)) (q j:Nat) :
 (if j=5 * q + 4 then Jm s q (5 * q + 4) ^^^ QJ s 4 else if j=5 * q + 3 then Jm s q (5 * q + 3) ^^^ QJ s 3 else if j=5 * q + 2 then Jm s q (5 * q + 2) ^^^ QJ s 2 else if j=5 * q + 1 then Jm s q (5 * q + 1) ^^^ QJ s 1 else if j=5 * q then Jm s q (5 * q) ^^^ QJ s 0 else Jm s q j)=Jm s (q + 1) j:=by
 have key:∀ c,c < 5→Jm s q (5 * q + c) ^^^ QJ s c=Jm s (q + 1) (5 * q + c):=fun c hc=>by
  have e1:(5 * q + c) % 5=c:=Aa
  simp only [Jm,if_neg (show ¬ 5 * q + c < 5 * q by omega),if_pos (show 5 * q + c < 5 * (q + 1) by omega),e1]
 split
 ·rename_i h;rw [h];exact key 4 Aa
 ·split
  ·rename_i h;rw [h];exact key 3 Aa
  ·split
   ·rename_i h;rw [h];exact key 2 Aa
   ·split
    ·rename_i h;rw [h];exact key 1 Aa
    ·split
     ·rename_i h;rw [h];exact key 0 Aa
     ·by_cases hj:j < 5 * q
      ·simp only [Jm,if_pos hj,if_pos (show j < 5 * (q + 1) by omega)]
      ·simp only [Jm,if_neg hj,if_neg (show ¬ j < 5 * (q + 1) by omega)]
theorem WM (b:List (BitVec 64)) (q j:Nat) :
 (if j=5 * q + 4 then Gd b q (5 * q + 4) ^^^ (~~~ Gd b q (5 * q) &&& Gd b q (5 * q + 1)) else if j=5 * q + 3 then Gd b q (5 * q + 3) ^^^ (~~~ Gd b q (5 * q + 4) &&& Gd b q (5 * q))
  else if j=5 * q + 2 then Gd b q (5 * q + 2) ^^^ (~~~ Gd b q (5 * q + 3) &&& Gd b q (5 * q + 4)) else if j=5 * q + 1 then Gd b q (5 * q + 1) ^^^ (~~~ Gd b q (5 * q + 2) &&& Gd b q (5 * q + 3))
  else if j=5 * q then Gd b q (5 * q) ^^^ (~~~ Gd b q (5 * q + 1) &&& Gd b q (5 * q + 2)) else Gd b q j)=Gd b (q + 1) j:=by
 have raw:∀ c,Gd b q (5 * q + c)=b.getD (5 * q + c) 0:=fun c=>by simp only [Gd,if_neg (show ¬ 5 * q + c < 5 * q by omega)]
 have raw0:Gd b q (5 * q)=b.getD (5 * q) 0:=raw 0
 have key:∀ c,c < 5→Gd b (q + 1) (5 * q + c)=b.getD (5 * q + c) 0 ^^^ (~~~ b.getD (5 * q + (c + 1) % 5) 0 &&& b.getD (5 * q + (c + 2) % 5) 0):=fun c hc=>by
  have e0:(5 * q + c) / 5=q:=Aa
  have e1:(5 * q + c + 1) % 5=(c + 1) % 5:=Aa
  have e2:(5 * q + c + 2) % 5=(c + 2) % 5:=Aa
  simp only [Gd,if_pos (show 5 * q + c < 5 * (q + 1) by omega),e0,e1,e2]
 simp only [raw,raw0]
 split
 ·rename_i h;rw [h,key 4 Aa];rfl
 ·split
  ·rename_i h;rw [h,key 3 Aa];rfl
  ·split
   ·rename_i h;rw [h,key 2 Aa]
   ·split
    ·rename_i h;rw [h,key 1 Aa]
    ·split
     ·rename_i h;rw [h];exact (key 0 Aa).symm
     ·by_cases hj:j < 5 * q
      ·simp only [Gd,if_pos hj,if_pos (show j < 5 * (q + 1) by omega)]
      ·simp only [Gd,if_neg hj,if_neg (show ¬ j < 5 * (q + 1) by omega)]
def rnd (s:List (BitVec 64)) (n:Nat):List (BitVec 64) :=
 (List.range 25).map fun j=>if j=0 then Gd (Kv (th s) 24).2 5 0 ^^^ rc.getD n 0 else Gd (Kv (th s) 24).2 5 j
def H6 (s:List (BitVec 64)):Nat→List (BitVec 64)
 | 0=>s
 | n + 1=>rnd (H6 s n) n
def RF (s:List (BitVec 64)):List (BitVec 64):=H6 s 24
theorem R3 (s:List (BitVec 64)) (n j:Nat) (hj:j < 25):(rnd s n).getD j 0=if j=0 then Gd (Kv (th s) 24).2 5 0 ^^^ rc.getD n 0 else Gd (Kv (th s) 24).2 5 j:=by
 simp [rnd,List.getD,List.getElem?_map,List.getElem?_range hj]
theorem Nr {M:Seat} (hc:Al M 417 Ac0=true) (hrot:Al M 462 UX=true) (s:List (BitVec 64)) :
 Af M 417 [.ar 1 25 (ws s)] [] 0 (Q3 (.ar 1 25 (ws (RF s))) [] 0):=by
 refine Ac hc rfl fun x hx=>?_
 refine es 30 ?_
 simp (maxSteps:=2000000) only [Ac0,Akc,Fe,↓Ab,ex,Ro,AC,A5,Ad,Nat.reduceLT,Int.reduceLE,Int.reduceLT,Nat.reducePow,Nat.reduceAnd,Nat.reduceOr,Nat.reduceShiftRight,Int.reduceToNat,reduceCtorEq,Nat.reduceAdd,Nat.reduceMul,Nat.reduceSub,Nat.reduceBEq,Nat.reduceEqDiff]
 refine Ag (σ:=Nat × List (BitVec 64)) (fun i=>i.1≤24∧i.2=H6 s i.1) (fun i=>fr 270 [(1,.ptr 0 []),(2,.ptr 1 []),(27,.ar 1 24 (ws rc)),(28,.int .i64 i.1)])
  (fun i=>[(0,.ar 1 25 (ws i.2)),(1,.ar 1 25 (fun _=>W 0))]) (fun _=>2) (fun i=>24 - i.1) (0,s) ⟨by simp,rfl⟩ ?_ ?_
 ·refine Aj.fr [0,16] [] hx Ax Ak ?_ ?_
  ·simp only [Lz,Nat.reduceLT,reduceCtorEq,Nat.reduceEqDiff]
   exact ⟨fun _ _=>trivial,rfl⟩
  ·simp only [Lz,Nat.reduceLT,reduceCtorEq,Nat.reduceEqDiff]
   exact ⟨⟨rfl,fun _ _=>trivial⟩,fun _ _=>by simp only [W,Aw];rfl⟩
 ·intro i ⟨hi,hii⟩
  refine es 40 ?_
  simp (maxSteps:=2000000) only [Fe,↓Ab,ex,Ro,AC,A5,Ad,Nat.reduceLT,Int.reduceLE,Int.reduceLT,Nat.reducePow,Nat.reduceAnd,Nat.reduceOr,Nat.reduceShiftRight,Int.reduceToNat,reduceCtorEq,Nat.reduceAdd,Nat.reduceMul,Nat.reduceSub,Nat.reduceBEq,Nat.reduceEqDiff]
  refine ⟨fun hlt=>?_,fun hge=>?_⟩
  ·have hlt:(i.1:Int) < 24:=Au1
   refine ⟨⟨by omega,by omega⟩,?_⟩
   refine AB (D8 hrot _ 1 Aa) ⟨rfl,rfl,trivial⟩ rfl ?_
   simp (maxSteps:=2000000) only [Fe,↓Ab,ex,Ro,AC,A5,Ad,Nat.reduceLT,Int.reduceLE,Int.reduceLT,Nat.reducePow,Nat.reduceAnd,Nat.reduceOr,Nat.reduceShiftRight,Int.reduceToNat,reduceCtorEq,Nat.reduceAdd,Nat.reduceMul,Nat.reduceSub,Nat.reduceBEq,Nat.reduceEqDiff]
   refine AB (D8 hrot _ 1 Aa) ⟨rfl,rfl,trivial⟩ rfl ?_
   simp (maxSteps:=2000000) only [Fe,↓Ab,ex,Ro,AC,A5,Ad,Nat.reduceLT,Int.reduceLE,Int.reduceLT,Nat.reducePow,Nat.reduceAnd,Nat.reduceOr,Nat.reduceShiftRight,Int.reduceToNat,reduceCtorEq,Nat.reduceAdd,Nat.reduceMul,Nat.reduceSub,Nat.reduceBEq,Nat.reduceEqDiff]
   refine AB (D8 hrot _ 1 Aa) ⟨rfl,rfl,trivial⟩ rfl ?_
   simp (maxSteps:=2000000) only [Fe,↓Ab,ex,Ro,AC,A5,Ad,Nat.reduceLT,Int.reduceLE,Int.reduceLT,Nat.reducePow,Nat.reduceAnd,Nat.reduceOr,Nat.reduceShiftRight,Int.reduceToNat,reduceCtorEq,Nat.reduceAdd,Nat.reduceMul,Nat.reduceSub,Nat.reduceBEq,Nat.reduceEqDiff]
   refine AB (D8 hrot _ 1 Aa) ⟨rfl,rfl,trivial⟩ rfl ?_
   simp (maxSteps:=2000000) only [Fe,↓Ab,ex,Ro,AC,A5,Ad,Nat.reduceLT,Int.reduceLE,Int.reduceLT,Nat.reducePow,Nat.reduceAnd,Nat.reduceOr,Nat.reduceShiftRight,Int.reduceToNat,reduceCtorEq,Nat.reduceAdd,Nat.reduceMul,Nat.reduceSub,Nat.reduceBEq,Nat.reduceEqDiff]
   refine AB (D8 hrot _ 1 Aa) ⟨rfl,rfl,trivial⟩ rfl ?_
   simp (maxSteps:=2000000) only [Fe,↓Ab,ex,Ro,AC,A5,Ad,Nat.reduceLT,Int.reduceLE,Int.reduceLT,Nat.reducePow,Nat.reduceAnd,Nat.reduceOr,Nat.reduceShiftRight,Int.reduceToNat,reduceCtorEq,Nat.reduceAdd,Nat.reduceMul,Nat.reduceSub,Nat.reduceBEq,Nat.reduceEqDiff]
   refine Ag (σ:=Nat) (fun q=>q≤5) (fun q=>fr 270 [(1,.ptr 0 []),(2,.ptr 1 []),(4,W (rc.getD i.1 0)),(10,W (QJ i.2 0)),(11,W (QJ i.2 1)),(12,W (QJ i.2 2)),(13,W (QJ i.2 3)),(14,W (QJ i.2 4)),(15,.int .i64 (5 * q:Nat)),(27,.ar 1 24 (ws rc)),(28,.int .i64 i.1)])
    (fun q=>[(0,.ar 1 25 (fun j=>W (Jm i.2 q j))),(1,.ar 1 25 (fun _=>W 0))]) (fun _=>2) (fun q=>5 - q) 0 Aa ?_ ?_
   ·refine Aj.fr [0,1] [] hx Ax Ak ?_ ?_
    ·simp only [Lz,Nat.reduceLT,reduceCtorEq,Nat.reduceEqDiff]
     exact ⟨rfl,rfl,rfl,rfl,rfl,rfl,fun _ _=>trivial⟩
    ·simp only [Lz,Nat.reduceLT,reduceCtorEq,Nat.reduceEqDiff]
     exact ⟨fun j _=>by simp [Jm],rfl,fun _ _=>trivial⟩
   ·intro q hq
    refine es 40 ?_
    simp (maxSteps:=2000000) only [Fe,↓Ab,ex,Ro,AC,A5,Ad,Nat.reduceLT,Int.reduceLE,Int.reduceLT,Nat.reducePow,Nat.reduceAnd,Nat.reduceOr,Nat.reduceShiftRight,Int.reduceToNat,reduceCtorEq,Nat.reduceAdd,Nat.reduceMul,Nat.reduceSub,Nat.reduceBEq,Nat.reduceEqDiff]
    refine ⟨fun hlt2=>?_,fun hge2=>?_⟩
    ·have hlt2:((5 * q:Nat):Int) < 25:=by simpa using hlt2
     refine ⟨by omega,by omega,by omega,by omega,by omega,by omega,by omega,by omega,by omega,by omega,by omega,by omega,by omega,by omega,by omega,by omega,by omega,q + 1,by omega,by omega,?_⟩
     have w1:IntKind.i64.wrap (((5 * q:Nat):Int) + 5)=((5 * (q + 1):Nat):Int):=A9
     refine Aj.fr [0,1] [] hx Ax Ak ?_ ?_
     ·simp only [Lz,Nat.reduceLT,reduceCtorEq,Nat.reduceEqDiff,w1]
      exact fun _ _=>trivial
     ·simp only [Lz,Nat.reduceLT,reduceCtorEq,Nat.reduceEqDiff]
      exact ⟨fun j _=>WI _ _ _,rfl,fun _ _=>trivial⟩
    ·have hge2:¬ ((5 * q:Nat):Int) < 25:=by simpa using hge2
     have hq5:q=5:=Aa
     subst hq5
     refine Ag (σ:=Nat) (fun p=>p≤24) (fun p=>fr 270 [(1,.ptr 0 []),(2,.ptr 1 []),(4,W (rc.getD i.1 0)),(17,W (Kv (th i.2) p).1),(27,.ar 1 24 (ws rc)),(28,.int .i64 i.1),(175,.ar 1 24 (fun i=>.int .i64 (lanes.getD i 0))),(176,.int .i64 p)])
      (fun p=>[(0,.ar 1 25 (ws (Kv (th i.2) p).2)),(1,.ar 1 25 (fun _=>W 0))]) (fun _=>2) (fun p=>24 - p) 0 Aa ?_ ?_
     ·refine Aj.fr [0,1] [] hx Ax Ak ?_ ?_
      ·simp only [Lz,Nat.reduceLT,reduceCtorEq,Nat.reduceEqDiff]
       exact ⟨(Sg _ 1 Aa).symm,fun _ _=>trivial,fun _ _=>trivial,rfl⟩
      ·simp only [Lz,Nat.reduceLT,reduceCtorEq,Nat.reduceEqDiff]
       exact ⟨fun j hj=>(Sg _ j hj).symm,rfl,fun _ _=>trivial⟩
     ·intro p hp
      refine es 40 ?_
      simp (maxSteps:=2000000) only [Fe,↓Ab,ex,Ro,AC,A5,Ad,Nat.reduceLT,Int.reduceLE,Int.reduceLT,Nat.reducePow,Nat.reduceAnd,Nat.reduceOr,Nat.reduceShiftRight,Int.reduceToNat,reduceCtorEq,Nat.reduceAdd,Nat.reduceMul,Nat.reduceSub,Nat.reduceBEq,Nat.reduceEqDiff]
      refine ⟨fun hlt3=>?_,fun hge3=>?_⟩
      ·have hlt3:(p:Int) < 24:=by simpa using hlt3
       have ht:=W6 p Aa
       have hl:=XU p Aa
       have ht2:turns.getD p 0=((turns.getD p 0).toNat:Int):=Aa
       have hcall:=D8 hrot (Kv (th i.2) p).1 (turns.getD p 0).toNat Aa
       rw [← ht2] at hcall
       refine ⟨⟨by omega,by omega⟩,⟨⟨by omega,by omega⟩,by omega⟩,_,_,AB hcall ⟨rfl,rfl,trivial⟩ rfl ⟨rfl,rfl⟩,?_⟩
       simp (maxSteps:=2000000) only [Fe,↓Ab,ex,Ro,AC,A5,Ad,Nat.reduceLT,Int.reduceLE,Int.reduceLT,Nat.reducePow,Nat.reduceAnd,Nat.reduceOr,Nat.reduceShiftRight,Int.reduceToNat,reduceCtorEq,Nat.reduceAdd,Nat.reduceMul,Nat.reduceSub,Nat.reduceBEq,Nat.reduceEqDiff]
       refine ⟨hl,by omega,⟨by omega,by omega⟩,hl,by omega,p + 1,by omega,by omega,?_⟩
       have w1:IntKind.i64.wrap ((p:Int) + 1)=((p + 1:Nat):Int):=A9
       refine Aj.fr [0,1] [] hx Ax Ak ?_ ?_
       ·simp only [Lz,Nat.reduceLT,reduceCtorEq,Nat.reduceEqDiff,w1]
        exact ⟨rfl,fun _ _=>trivial⟩
       ·simp only [Lz,Nat.reduceLT,reduceCtorEq,Nat.reduceEqDiff]
        exact ⟨fun j hj=>(W2 _ _ _ _ (by rw [Nk _ (Q8 _)];omega)).symm,rfl,fun _ _=>trivial⟩
      ·have hge3:¬ (p:Int) < 24:=by simpa using hge3
       have hp24:p=24:=Aa
       subst hp24
       refine Ag (σ:=Nat) (fun q=>q≤5) (fun q=>fr 270 [(1,.ptr 0 []),(2,.ptr 1 []),(4,W (rc.getD i.1 0)),(20,.int .i64 (5 * q:Nat)),(27,.ar 1 24 (ws rc)),(28,.int .i64 i.1)])
        (fun q=>[(0,.ar 1 25 (fun j=>W (Gd (Kv (th i.2) 24).2 q j))),(1,.ar 1 25 (fun _=>W 0))]) (fun _=>2) (fun q=>5 - q) 0 Aa ?_ ?_
       ·refine Aj.fr [0,1] [] hx Ax Ak ?_ ?_
        ·simp only [Lz,Nat.reduceLT,reduceCtorEq,Nat.reduceEqDiff]
         exact ⟨rfl,fun _ _=>trivial⟩
        ·simp only [Lz,Nat.reduceLT,reduceCtorEq,Nat.reduceEqDiff]
         exact ⟨fun j _=>by simp [Gd],rfl,fun _ _=>trivial⟩
       ·intro q hq
        refine es 40 ?_
        simp (maxSteps:=2000000) only [Fe,↓Ab,ex,Ro,AC,A5,Ad,Nat.reduceLT,Int.reduceLE,Int.reduceLT,Nat.reducePow,Nat.reduceAnd,Nat.reduceOr,Nat.reduceShiftRight,Int.reduceToNat,reduceCtorEq,Nat.reduceAdd,Nat.reduceMul,Nat.reduceSub,Nat.reduceBEq,Nat.reduceEqDiff]
        refine ⟨fun hlt4=>?_,fun hge4=>?_⟩
        ·have hlt4:((5 * q:Nat):Int) < 25:=by simpa using hlt4
         refine ⟨by omega,by omega,by omega,by omega,by omega,by omega,by omega,by omega,by omega,by omega,by omega,by omega,by omega,by omega,by omega,by omega,by omega,q + 1,by omega,by omega,?_⟩
         have w1:IntKind.i64.wrap (((5 * q:Nat):Int) + 5)=((5 * (q + 1):Nat):Int):=A9
         refine Aj.fr [0,1] [] hx Ax Ak ?_ ?_
         ·simp only [Lz,Nat.reduceLT,reduceCtorEq,Nat.reduceEqDiff,w1]
          exact fun _ _=>trivial
         ·simp only [Lz,Nat.reduceLT,reduceCtorEq,Nat.reduceEqDiff]
          exact ⟨fun j _=>WM _ _ _,rfl,fun _ _=>trivial⟩
        ·have hge4:¬ ((5 * q:Nat):Int) < 25:=by simpa using hge4
         have hq5:q=5:=Aa
         subst hq5
         have w1:IntKind.i64.wrap ((i.1:Int) + 1)=((i.1 + 1:Nat):Int):=A9
         refine ⟨(i.1 + 1,rnd i.2 i.1),⟨by simp only;omega,by simp only [H6,hii]⟩,by simp only;omega,?_⟩
         refine Aj.fr [0,1] [] hx Ax Ak ?_ ?_
         ·simp only [Lz,Nat.reduceLT,reduceCtorEq,Nat.reduceEqDiff,w1]
          exact fun _ _=>trivial
         ·simp only [Lz,Nat.reduceLT,reduceCtorEq,Nat.reduceEqDiff]
          exact ⟨fun j hj=>(R3 _ _ _ hj).symm,rfl,fun _ _=>trivial⟩
  ·have hge:¬ (i.1:Int) < 24:=TV
   have hi24:i.1=24:=Aa
   refine Aq.mk hx [] [] (.ar 1 25 (ws (RF s))) [] 0 Ak ?_ ?_ ?_ ⟨rfl,rfl,rfl⟩
   ·simp only [DS,Ig,Fe,↓Ab,ex,Ro,AC,A5,Ad,Nat.reduceLT,Int.reduceLE,Int.reduceLT,Nat.reducePow,Nat.reduceAnd,Nat.reduceOr,Nat.reduceShiftRight,Int.reduceToNat,reduceCtorEq,Nat.reduceAdd,Nat.reduceMul,Nat.reduceSub,Nat.reduceBEq,Nat.reduceEqDiff]
   ·simp only [DS,Ek,Fe,↓Ab,ex,Ro,AC,A5,Ad,Nat.reduceLT,Int.reduceLE,Int.reduceLT,Nat.reducePow,Nat.reduceAnd,Nat.reduceOr,Nat.reduceShiftRight,Int.reduceToNat,reduceCtorEq,Nat.reduceAdd,Nat.reduceMul,Nat.reduceSub,Nat.reduceBEq,Nat.reduceEqDiff,LS,La4]
    intro j hj
    rw [hii,hi24,RF]
   ·trivial
variable {M:Seat}
def HL (s:List (BitVec 64)) (p:Nat→BitVec 8):List (BitVec 64):=RF (mix s p)
theorem G1 (ok:OkM M) (s:List (BitVec 64)) (p:Nat→BitVec 8) :
 Af M 318 [.ar 1 25 (ws s),.lst 1 136 (fun j=>B (p j))] [] 0 (Q3 (.ar 1 25 (ws (HL s p))) [] 0):=by
 refine Ac ok.k318 rfl fun x hx=>?_
 refine es 30 ?_
 simp only [Afi,Al0,Fe,↓Ab,ex,Ro,AC,A5,Ad,Nat.reduceLT,Int.reduceLE,Int.reduceLT,Nat.reducePow,Nat.reduceAnd,Nat.reduceOr,Nat.reduceShiftRight,Int.reduceToNat,reduceCtorEq,Nat.reduceAdd,Nat.reduceMul,Nat.reduceSub,Nat.reduceBEq,Nat.reduceEqDiff]
 refine Ag (σ:=Nat) (fun i=>i≤17) (fun i=>fr 38 [(1,.lst 1 136 (fun j=>B (p j))),(2,.ptr 0 []),(4,.ptr 1 []),(8,.int .i64 i)])
  (fun i=>[(0,.ar 1 25 (fun j=>W (Oc s p i 0 j))),(1,.ar 1 25 (fun _=>W 0))]) (fun _=>2) (fun i=>17 - i) 0 Aa ?_ ?_
 ·refine Aj.fr [0,16] [] hx Ax Ak ?_ ?_
  ·simp only [A7,Nat.reduceLT,reduceCtorEq,Nat.reduceEqDiff,Nat.reduceLeDiff,Nat.reduceBEq]
  ·simp only [A7,Nat.reduceLT,reduceCtorEq,Nat.reduceEqDiff,Nat.reduceLeDiff,Nat.reduceBEq]
   exact ⟨fun j _=>(Adg _ _ _).symm,fun _ _=>by simp only [W,Aw];rfl⟩
 ·intro i hi
  refine es 40 ?_
  simp only [Fe,↓Ab,ex,Ro,AC,A5,Ad,Nat.reduceLT,Int.reduceLE,Int.reduceLT,Nat.reducePow,Nat.reduceAnd,Nat.reduceOr,Nat.reduceShiftRight,Int.reduceToNat,reduceCtorEq,Nat.reduceAdd,Nat.reduceMul,Nat.reduceSub,Nat.reduceBEq,Nat.reduceEqDiff]
  refine ⟨fun hlt=>?_,fun hge=>?_⟩
  ·have hlt:(i:Int) < 17:=Au1
   have w1:IntKind.i64.wrap (8 * (i:Int))=8 * i:=AI Aa
   have w2:IntKind.i64.wrap (8 * (i:Int) + 8)=8 * i + 8:=AI Aa
   simp only [w1,w2]
   refine ⟨⟨by omega,by omega,by omega⟩,?_⟩
   refine Ag (σ:=Nat) (fun k=>k≤8) (fun k=>fr 38 [(1,.lst 1 136 (fun j=>B (p j))),(2,.ptr 0 []),(4,.ptr 1 []),(5,.int .i64 i),(8,.int .i64 i),(17,.lst 1 8 (fun j=>B (p (8 * i + j)))),(18,.int .i64 8),(19,.int .i64 k)])
    (fun k=>[(0,.ar 1 25 (fun j=>W (Oc s p i k j))),(1,.ar 1 25 (fun _=>W 0))]) (fun _=>2) (fun k=>8 - k) 0 Aa ?_ ?_
   ·refine Aj.fr [0,1] [] hx Ax Ak ?_ ?_
    ·simp only [A7,Nat.reduceLT,reduceCtorEq,Nat.reduceEqDiff,Nat.reduceLeDiff,Nat.reduceBEq]
     refine ⟨⟨by omega,fun j _=>?_⟩,by omega⟩
     have e1:(8 * (i:Int)).toNat=8 * i:=Aa
     rw [e1]
    ·simp only [A7,Nat.reduceLT,reduceCtorEq,Nat.reduceEqDiff,Nat.reduceLeDiff,Nat.reduceBEq]
   ·intro k hk
    (refine es 40 ?_;simp (maxSteps:=2000000) only [CH,↓Ab,ex,Ro,AC,A5,Ad,Nat.reduceLT,Int.reduceLE,Int.reduceLT,Nat.reducePow,Nat.reduceAnd,Nat.reduceOr,Nat.reduceShiftRight,Int.reduceToNat,reduceCtorEq,Nat.reduceAdd,Nat.reduceMul,Nat.reduceSub,Nat.reduceBEq,Nat.reduceEqDiff])
    refine ⟨fun hlt2=>?_,fun hge2=>?_⟩
    ·have hlt2:(k:Int) < 8:=by simpa using hlt2
     have w3:IntKind.i64.wrap (8 * (k:Int))=8 * k:=AI Aa
     have w4:IntKind.i64.wrap ((k:Int) + 1)=((k + 1:Nat):Int):=A9
     have w5:(8 * (k:Int)).toNat=8 * k:=Aa
     simp only [w3,w4,w5]
     refine ⟨⟨by omega,by omega⟩,⟨by omega,by omega⟩,by omega,by omega,by omega,⟨by omega,by omega⟩,by omega,k + 1,by omega,by omega,?_⟩
     refine Aj.fr [0,1] [] hx Ax Ak ?_ ?_
     ·simp only [A7,Nat.reduceLT,reduceCtorEq,Nat.reduceEqDiff,Nat.reduceLeDiff,Nat.reduceBEq]
     ·simp only [A7,Nat.reduceLT,reduceCtorEq,Nat.reduceEqDiff,Nat.reduceLeDiff,Nat.reduceBEq]
      exact fun j _=>Adn _ _ _ _ _
    ·have hge2:¬ (k:Int) < 8:=by simpa using hge2
     have hk8:k=8:=Aa
     subst hk8
     have w4:IntKind.i64.wrap ((i:Int) + 1)=((i + 1:Nat):Int):=A9
     refine ⟨i + 1,by omega,by omega,?_⟩
     refine Aj.fr [0,1] [] hx Ax Ak ?_ ?_
     ·simp only [A7,Nat.reduceLT,reduceCtorEq,Nat.reduceEqDiff,Nat.reduceLeDiff,Nat.reduceBEq,w4]
     ·simp only [A7,Nat.reduceLT,reduceCtorEq,Nat.reduceEqDiff,Nat.reduceLeDiff,Nat.reduceBEq]
      exact fun j _=>Adm _ _ _ _
  ·have hge:¬ (i:Int) < 17:=TV
   have hi17:i=17:=Aa
   subst hi17
   refine AB (Nr ok.k417 ok.k462 (mix s p)) ⟨?_,trivial⟩ rfl ?_
   ·simp only [A7,Nat.reduceLT,reduceCtorEq,Nat.reduceEqDiff,Nat.reduceLeDiff,Nat.reduceBEq]
    exact fun j hj=>(Rl _ _ _ hj).symm
   simp only [Fe,↓Ab,ex,Ro,AC,A5,Ad,Nat.reduceLT,Int.reduceLE,Int.reduceLT,Nat.reducePow,Nat.reduceAnd,Nat.reduceOr,Nat.reduceShiftRight,Int.reduceToNat,reduceCtorEq,Nat.reduceAdd,Nat.reduceMul,Nat.reduceSub,Nat.reduceBEq,Nat.reduceEqDiff]
   refine Aq.mk hx [] [] (.ar 1 25 (ws (HL s p))) [] 0 Ak ?_ ?_ trivial ⟨rfl,rfl,rfl⟩
   ·simp only [DS,Ig,Fe,↓Ab,ex,Ro,AC,A5,Ad,Nat.reduceLT,Int.reduceLE,Int.reduceLT,Nat.reducePow,Nat.reduceAnd,Nat.reduceOr,Nat.reduceShiftRight,Int.reduceToNat,reduceCtorEq,Nat.reduceAdd,Nat.reduceMul,Nat.reduceSub,Nat.reduceBEq,Nat.reduceEqDiff]
   ·simp only [La6,LR,↓Ab,ex,Ro,AC,A5,Ad,Nat.reduceLT,Int.reduceLE,Int.reduceLT,Nat.reducePow,Nat.reduceAnd,Nat.reduceOr,Nat.reduceShiftRight,Int.reduceToNat,reduceCtorEq,Nat.reduceAdd,Nat.reduceMul,Nat.reduceSub,Nat.reduceBEq,Nat.reduceEqDiff,Nat.reduceLeDiff]
    exact fun _ _=>rfl
theorem IP (ok:OkM M) (s:List (BitVec 64)) :
 Af M 317 [.ar 1 25 (ws s)] [] 0 (Q3 (dg (Qf s)) [] 0):=by
 refine Ac ok.k317 rfl fun x hx=>?_
 refine es 30 ?_
 simp only [Afs,Aks,Fe,↓Ab,ex,Ro,AC,A5,Ad,Nat.reduceLT,Int.reduceLE,Int.reduceLT,Nat.reducePow,Nat.reduceAnd,Nat.reduceOr,Nat.reduceShiftRight,Int.reduceToNat,reduceCtorEq,Nat.reduceAdd,Nat.reduceMul,Nat.reduceSub,Nat.reduceBEq,Nat.reduceEqDiff]
 refine Ag (σ:=Nat) (fun i=>i≤32) (fun i=>fr 21 [(1,.ptr 0 []),(2,.ptr 1 []),(3,.ptr 2 []),(5,.int .i64 i)])
  (fun i=>[(0,.ar 1 25 (ws s)),(1,.ar 1 32 (fun _=>B 0)),(2,.ar 1 32 (fun j=>B (if j < i then (Qf s).at j else 0)))]) (fun _=>3) (fun i=>32 - i) 0 Aa ?_ ?_
 ·refine Aj.fr [0,16,32] [] hx Ax Ak ?_ ?_
  ·simp only [A7,Nat.reduceLT,reduceCtorEq,Nat.reduceEqDiff,Nat.reduceLeDiff,Nat.reduceBEq]
  ·simp only [A7,Nat.reduceLT,reduceCtorEq,Nat.reduceEqDiff,Nat.reduceLeDiff,Nat.reduceBEq]
   exact ⟨fun _ _=>by simp only [B,Aw];rfl,fun _ _=>by rw [if_neg Aa];simp only [B,Aw];rfl⟩
 ·intro i hi
  (refine es 40 ?_;simp (maxSteps:=2000000) only [CH,↓Ab,ex,Ro,AC,A5,Ad,Nat.reduceLT,Int.reduceLE,Int.reduceLT,Nat.reducePow,Nat.reduceAnd,Nat.reduceOr,Nat.reduceShiftRight,Int.reduceToNat,reduceCtorEq,Nat.reduceAdd,Nat.reduceMul,Nat.reduceSub,Nat.reduceBEq,Nat.reduceEqDiff])
  refine ⟨fun hlt=>?_,fun hge=>?_⟩
  ·have hlt:(i:Int) < 32:=Au1
   have w1:IntKind.i64.wrap ((i:Int) + 1)=((i + 1:Nat):Int):=A9
   have w2:IntKind.i64.wrap ((i:Int).tdiv 8)=((i / 8:Nat):Int):=Z1
   have w3:IntKind.i64.wrap (8 * (i:Int).tmod 8)=((8 * (i % 8):Nat):Int):=by rw [Int.tmod_eq_emod_of_nonneg Aa,AI Aa];omega
   simp only [w1,w2,w3,Int.toNat_natCast]
   refine ⟨by omega,⟨by omega,by omega⟩,by omega,by omega,by omega,⟨by omega,by omega⟩,by omega,i + 1,by omega,by omega,?_⟩
   refine Aj.fr [0,1,2] [] hx Ax Ak ?_ ?_
   ·simp only [A7,Nat.reduceLT,reduceCtorEq,Nat.reduceEqDiff,Nat.reduceLeDiff,Nat.reduceBEq]
   ·simp only [A7,Nat.reduceLT,reduceCtorEq,Nat.reduceEqDiff,Nat.reduceLeDiff,Nat.reduceBEq]
    intro j hj
    by_cases hji:j=i
    ·subst hji
     rw [if_pos rfl,if_pos Aa,Qf,Dg.at_mk' _ _ hj]
    ·rw [if_neg hji]
     by_cases h2:j < i
     ·rw [if_pos h2,if_pos Aa]
     ·rw [if_neg h2,if_neg Aa]
  ·have hge:¬ (i:Int) < 32:=TV
   have hi17:i=32:=Aa
   subst hi17
   refine Aq.mk hx [] [] (dg (Qf s)) [] 0 Ak ?_ ?_ trivial ⟨rfl,rfl,rfl⟩
   ·simp only [DS,Ig,Fe,↓Ab,ex,Ro,AC,A5,Ad,Nat.reduceLT,Int.reduceLE,Int.reduceLT,Nat.reducePow,Nat.reduceAnd,Nat.reduceOr,Nat.reduceShiftRight,Int.reduceToNat,reduceCtorEq,Nat.reduceAdd,Nat.reduceMul,Nat.reduceSub,Nat.reduceBEq,Nat.reduceEqDiff]
   ·simp only [La6,LR,↓Ab,ex,Ro,AC,A5,Ad,Nat.reduceLT,Int.reduceLE,Int.reduceLT,Nat.reducePow,Nat.reduceAnd,Nat.reduceOr,Nat.reduceShiftRight,Int.reduceToNat,reduceCtorEq,Nat.reduceAdd,Nat.reduceMul,Nat.reduceSub,Nat.reduceBEq,Nat.reduceEqDiff,Nat.reduceLeDiff,dg]
    intro j hj
    rw [if_pos hj]
def B2 (a b:Dg):Dg:=Qf (HL (List.replicate 25 0) (UR a b))
theorem ZU (a b:Dg) (j:Nat):(if j=135 then V.int .u8 128 else if j=64 then V.int .u8 1 else if 32≤j∧j < 32 + min 32 104 then B (b.at (j - 32)) else if 0≤j∧j < min 32 136 then B (a.at (j - 0)) else V.int .u8 0)=B (UR a b j):=by
 have h1:V.int .u8 128=B 128:=rfl
 have h2:V.int .u8 1=B 1:=rfl
 have h3:V.int .u8 0=B 0:=rfl
 simp only [h1,h2,h3,Ki,UR]
 congr 1
 repeat' split
 all_goals first | rfl | omega
theorem Bj (ok:OkM M) (a b:Dg) :
 Af M 207 [dg a,dg b] [] 0 (Q3 (dg (B2 a b)) [] 0):=by
 refine Ac ok.k207 rfl fun x hx=>?_
 refine es 30 ?_
 simp only [Ah5,Alv,dg,Fe,↓Ab,ex,Ro,AC,A5,Ad,Nat.reduceLT,Int.reduceLE,Int.reduceLT,Nat.reducePow,Nat.reduceAnd,Nat.reduceOr,Nat.reduceShiftRight,Int.reduceToNat,reduceCtorEq,Nat.reduceAdd,Nat.reduceMul,Nat.reduceSub,Nat.reduceBEq,Nat.reduceEqDiff]
 first | refine ⟨⟨by omega,by omega⟩,⟨by omega,by omega⟩,?_,?_,?_⟩ | refine ⟨?_,?_,?_⟩
 ·rw [if_neg Aa,if_neg Aa];rfl
 ·rw [if_neg Aa,if_neg Aa];rfl
 refine GQ [48] (G1 ok (List.replicate 25 0) (UR a b)) ?_ rfl ?_
 ·simp only [A7,Nat.reduceLT,reduceCtorEq,Nat.reduceEqDiff,Nat.reduceLeDiff,Nat.reduceBEq,ZU]
  intro j hj
  have e1:(List.replicate 25 (0:BitVec 64)).getD j 0=0:=by rw [List.getD,List.getElem?_replicate,if_pos hj];rfl
  rw [e1]
  simp only [W,Aw];rfl
 simp only [A4,Fe,↓Ab,ex,Ro,AC,A5,Ad,Nat.reduceLT,Int.reduceLE,Int.reduceLT,Nat.reducePow,Nat.reduceAnd,Nat.reduceOr,Nat.reduceShiftRight,Int.reduceToNat,reduceCtorEq,Nat.reduceAdd,Nat.reduceMul,Nat.reduceSub,Nat.reduceBEq,Nat.reduceEqDiff]
 refine AB (IP ok (HL (List.replicate 25 0) (UR a b))) ?_ rfl ?_
 ·simp only [A7,Nat.reduceLT,reduceCtorEq,Nat.reduceEqDiff,Nat.reduceLeDiff,Nat.reduceBEq]
 simp only [dg,Fe,↓Ab,ex,Ro,AC,A5,Ad,Nat.reduceLT,Int.reduceLE,Int.reduceLT,Nat.reducePow,Nat.reduceAnd,Nat.reduceOr,Nat.reduceShiftRight,Int.reduceToNat,reduceCtorEq,Nat.reduceAdd,Nat.reduceMul,Nat.reduceSub,Nat.reduceBEq,Nat.reduceEqDiff]
 refine Aq.mk hx [] [] (dg (B2 a b)) [] 0 Ak ?_ ?_ trivial ⟨rfl,rfl,rfl⟩
 ·simp only [DS,Ig,Fe,↓Ab,ex,Ro,AC,A5,Ad,Nat.reduceLT,Int.reduceLE,Int.reduceLT,Nat.reducePow,Nat.reduceAnd,Nat.reduceOr,Nat.reduceShiftRight,Int.reduceToNat,reduceCtorEq,Nat.reduceAdd,Nat.reduceMul,Nat.reduceSub,Nat.reduceBEq,Nat.reduceEqDiff]
 ·simp only [La6,LR,↓Ab,ex,Ro,AC,A5,Ad,Nat.reduceLT,Int.reduceLE,Int.reduceLT,Nat.reducePow,Nat.reduceAnd,Nat.reduceOr,Nat.reduceShiftRight,Int.reduceToNat,reduceCtorEq,Nat.reduceAdd,Nat.reduceMul,Nat.reduceSub,Nat.reduceBEq,Nat.reduceEqDiff,Nat.reduceLeDiff,dg]
  exact fun _ _=>rfl
def Am:Nat→Dg
 | 0=>Dg.zero
 | h + 1=>B2 (Am h) (Am h)
theorem HS {M:Seat} (ok:OkM M) :
 Af M 315 [] [] 0 (Q3 (.ar 32 17 (fun j=>dg (Am j))) [] 0):=by
 refine Ac ok.k315 rfl fun x hx=>?_
 refine es 30 ?_
 simp only [Ahy,Aj2,Fe,↓Ab,ex,Ro,AC,A5,Ad,seval]
 refine Ag (σ:=Nat) (fun i=>1≤i∧i≤17) (fun i=>fr 19 [(0,.ptr 0 []),(1,.ptr 1 []),(2,.int .i64 i)])
  (fun i=>[(0,.ar 32 17 (fun _=>dg Dg.zero)),(1,.ar 32 17 (fun j=>dg (if j < i then Am j else Dg.zero)))]) (fun _=>2) (fun i=>17 - i) 1 Aa ?_ ?_
 ·refine Aj.fr [0,16] [] hx Ax Ak ?_ ?_
  ·simp only [A7,seval]
  ·simp only [A7,seval,Yf]
   intro j hj
   by_cases h:j < 1
   ·rw [if_pos h];have:j=0:=Aa
    subst this;rfl
   ·rw [if_neg h]
 ·intro i ⟨hi1,hi⟩
  (refine es 40 ?_;simp (maxSteps:=2000000) only [CH,↓Ab,ex,Ro,AC,A5,Ad,seval])
  refine ⟨fun hlt=>?_,fun hge=>?_⟩
  ·have hlt:(i:Int)≤16:=Au1
   have w1:IntKind.i64.wrap ((i:Int) - 1)=((i - 1:Nat):Int):=A9
   have w2:IntKind.i64.wrap ((i:Int) + 1)=((i + 1:Nat):Int):=A9
   simp only [w1,Int.toNat_natCast,if_pos (show i - 1 < i by omega)]
   repeat refine sd ?_
   refine ⟨_,_,AB (Bj ok _ _) ⟨(AJ _ _ _ _ _).mpr rfl,(AJ _ _ _ _ _).mpr rfl,trivial⟩ rfl ⟨rfl,rfl⟩,?_⟩
   simp only [Fe,↓Ab,ex,Ro,AC,A5,Ad,seval]
   repeat refine sd ?_
   refine ⟨i + 1,⟨by omega,by omega⟩,by omega,?_⟩
   refine Aj.fr [0,1] [] hx Ax Ak ?_ ?_
   ·simp only [A7,seval,w2]
   ·simp only [A7,seval]
    intro j hj
    by_cases h1:j=i
    ·subst h1
     rw [if_pos rfl,if_pos Aa]
     obtain ⟨p,rfl⟩:∃ p,j=p + 1:=⟨j - 1,by omega⟩
     rfl
    ·rw [if_neg h1]
     by_cases h2:j < i
     ·rw [if_pos h2,if_pos Aa]
     ·rw [if_neg h2,if_neg Aa]
  ·have hge:¬ (i:Int)≤16:=TV
   have hi17:i=17:=Aa
   subst hi17
   refine Aq.mk hx [] [] (.ar 32 17 (fun j=>dg (Am j))) [] 0 Ak ?_ ?_ trivial ⟨rfl,rfl,rfl⟩
   ·simp only [DS,Ig,Fe,↓Ab,ex,Ro,AC,A5,Ad,seval]
   ·simp only [La6,LR,↓Ab,ex,Ro,AC,A5,Ad,seval]
    intro j hj
    rw [if_pos hj]
def Ao (a b:V):V:=.tup (.fcons 0 a (.fcons 1 b .fnil))
def BD (a b c:V):V:=.tup (.fcons 0 a (.fcons 1 b (.fcons 2 c .fnil)))
def Lb:=(aq7 @LU @La6 @dg.eq_1 @Ao.eq_1 @BD.eq_1 @GH.eq_1 @GH.eq_2)
theorem Uj {M:Seat} (ok:OkM M) (h:Nat) (hh:h≤16) :
 Af M 197 [.int .i64 h] [] 0 (Q3 (Ao (dg (Am h)) .nili) [] 0):=by
 refine Ac ok.k197 rfl fun x hx=>?_
 refine es 30 ?_
 simp only [Ai5,Akr,Fe,↓Ab,ex,Ro,AC,A5,Ad,seval]
 have h1:decide ((h:Int) < 0)=false:=Bu
 have h2:decide ((16:Int) < h)=false:=Cd
 simp only [h1,h2,Fe,↓Ab,ex,Ro,AC,A5,Ad,seval]
 refine AB (HS ok) trivial rfl ?_
 simp only [Fe,↓Ab,ex,Ro,AC,A5,Ad,seval]
 repeat refine sd ?_
 refine Aq.mk hx [] [] (Ao (dg (Am h)) .nili) [] 0 Ak ?_ ?_ trivial ⟨rfl,rfl,rfl⟩
 ·simp only [Tp,HD,Fe,↓Ab,ex,Ro,AC,A5,Ad,seval]
  rfl
 ·simp only [La6,GH,Ao,LR,↓Ab,ex,Ro,AC,A5,Ad,seval,dg]
end Mv
