/- A part. -/
import Derived.Test.YtlfkjfonpacelaaGreatDoorIP
set_option linter.all false
set_option maxRecDepth 20000
set_option maxHeartbeats 4000000
namespace Mv
open Go
structure OkM (M:Seat):Prop where
 k49:Ar M 49 f49=true
 k50:Ar M 50 f50=true
 k51:Ar M 51 f51=true
 k52:Ar M 52 f52=true
 k53:Ar M 53 f53=true
 k74:Ar M 74 f74=true
 k197:Ar M 197 Ao9=true
 k198:Ar M 198 f198=true
 k200:Ar M 200 f200=true
 k201:Ar M 201 At2=true
 k207:Ar M 207 Aru=true
 k315:Ar M 315 Apu=true
 k316:Ar M 316 Aql=true
 k317:Ar M 317 Ap2=true
 k318:Ar M 318 Ap1=true
 k312:Ar M 312 PH=true
 k417:Ar M 417 Ajn=true
 k462:Ar M 462 Aaf=true
 k199:Ar M 199 f199=true
 k202:Ar M 202 Arw=true
structure OkA (M:Seat):Prop extends OkM M where
instance {M:Seat}:Coe (OkA M) (OkM M):=⟨OkA.toOkM⟩
theorem Aco {M:Seat} (hc:Ar M 462 Aaf=true) (x k:Nat) (hx:x < 18446744073709551616) (hk:k < 64) :
 Ae M 462 [.int .u64 x,.int .i64 k] [] 0 (Q3 (.int .u64 (Wi x k:Nat)) [] 0):=by
 refine Ab hc rfl fun c hck=>?_;refine es 30 ?_;simp only [Aaf,Ap4,FU,↓Ac,ex,Ro,Bd,Br,Af,seval];have w1:IntKind.u64.wrap ((k:Nat):Int)=(k:Nat):=G3 Aa;have w2:IntKind.u64.wrap ((BitVec.ofInt IntKind.u64.bits ((k:Nat):Int) &&& BitVec.ofInt IntKind.u64.bits 63).toNat:Int)=((k:Nat):Int):=by
  have h:=UT (a:=k) (b:=63) Aa Aa;have h2:k &&& 63=k:=by
   have h3:=Nat.and_two_pow_sub_one_eq_mod k 6;have h4:k &&& 63=k % 2 ^ 6:=h3;omega
  rw [h2] at h;exact h
 have w3:IntKind.u64.wrap (64 - ((k:Nat):Int))=((64 - k:Nat):Int):=by rw [G3 Aa];omega
 have w4:=Ag0 (a:=x) (k:=k) hk;have w5:=Ahg (a:=x) (k:=64 - k) Aa;simp only [w1,w2,w3,w4,w5];have hl:=Ahk (k:=k) hx
 have w6:=Abt (a:=x <<< k % 18446744073709551616) (b:=x >>> (64 - k)) (Nat.mod_lt _ Aa) (by
  rw [Nat.shiftRight_eq_div_pow]
  exact Nat.lt_of_le_of_lt (Nat.div_le_self _ _) hx)
 simp only [w6];refine ⟨by omega,by omega,?_⟩;refine Ap.mk hck [] [] (.int .u64 (Wi x k:Nat)) [] 0 Al ?_ ?_ trivial ⟨rfl,rfl,rfl⟩
 ·simp [EL,Ii]
 ·simp only [EL,Fe,F3,LI,ne_eq,not_false_eq_true,seval,Bz,Ay,Wi]
theorem E2 {M:Seat} (hc:Ar M 462 Aaf=true) (x:BitVec 64) (k:Nat) (hk:k < 64) :
 Ae M 462 [W x,.int .i64 k] [] 0 (Q3 (W (X9 x k)) [] 0):=by
 have h:=Aco hc x.toNat k (RW x) hk;simp only [Rs] at h;exact h
def par (s:List (BitVec 64)) (x:Nat):BitVec 64:=s.getD x 0 ^^^ s.getD (x + 5) 0 ^^^ s.getD (x + 10) 0 ^^^ s.getD (x + 15) 0 ^^^ s.getD (x + 20) 0
def UH (s:List (BitVec 64)) (x:Nat):BitVec 64:=par s ((x + 4) % 5) ^^^ X9 (par s ((x + 1) % 5)) 1
def Qs (s:List (BitVec 64)) (q j:Nat):BitVec 64:=if j < 5 * q then s.getD j 0 ^^^ UH s (j % 5) else s.getD j 0
def th (s:List (BitVec 64)):List (BitVec 64):=(List.range 25).map (Qs s 5)
theorem ZR (s:List (BitVec 64)) (j:Nat) (hj:j < 25):(th s).getD j 0=Qs s 5 j:=by
 simp [th,List.getD,List.getElem?_map,List.getElem?_range hj]
def Ng (a:List (BitVec 64)):Nat→BitVec 64 × List (BitVec 64)
 | 0=>(a.getD 1 0,a)
 | p + 1=>((Ng a p).2.getD (lanes.getD p 0).toNat 0,(Ng a p).2.set (lanes.getD p 0).toNat (X9 (Ng a p).1 (turns.getD p 0).toNat))
theorem Abd (s:List (BitVec 64)):(th s).length=25:=by simp [th]
theorem OP (a:List (BitVec 64)) (ha:a.length=25):∀ p,(Ng a p).2.length=25
 | 0=>ha
 | p + 1=>by simp only [Ng,List.length_set];exact OP a ha p
theorem Zd (l:List (BitVec 64)) (t:Nat) (v:BitVec 64) (j:Nat) (ht:t < l.length):(l.set t v).getD j 0=if j=t then v else l.getD j 0:=by
 by_cases h:j=t
 ·subst h;simp [List.getD,ht]
 ·simp [List.getD,List.getElem?_set_ne (Ne.symm h),h]
def Hj (b:List (BitVec 64)) (q j:Nat):BitVec 64 :=
 if j < 5 * q then b.getD j 0 ^^^ (~~~ b.getD (5 * (j / 5) + (j + 1) % 5) 0 &&& b.getD (5 * (j / 5) + (j + 2) % 5) 0) else b.getD j 0
theorem ZV (s:List (BitVec 64)) (q j:Nat) :
 (if j=5 * q + 4 then Qs s q (5 * q + 4) ^^^ UH s 4 else if j=5 * q + 3 then Qs s q (5 * q + 3) ^^^ UH s 3 else if j=5 * q + 2 then Qs s q (5 * q + 2) ^^^ UH s 2 else if j=5 * q + 1 then Qs s q (5 * q + 1) ^^^ UH s 1 else if j=5 * q then Qs s q (5 * q) ^^^ UH s 0 else Qs s q j)=Qs s (q + 1) j:=by
 have key:∀ c,c < 5→Qs s q (5 * q + c) ^^^ UH s c=Qs s (q + 1) (5 * q + c):=fun c hc=>by
  have e1:(5 * q + c) % 5=c:=Aa;simp only [Qs,if_neg (show ¬ 5 * q + c < 5 * q by omega),if_pos (show 5 * q + c < 5 * (q + 1) by omega),e1]
 split
 ·rename_i h;rw [h];exact key 4 Aa
 ·split
  ·rename_i h;rw [h];exact key 3 Aa
  ·split
   ·rename_i h;rw [h];exact key 2 Aa
   ·split
    ·rename_i h;rw [h];exact key 1 Aa
    ·split
     ·rename_i h;rw [h];exact key 0 Aa
     ·by_cases hj:j < 5 * q
      ·simp only [Qs,if_pos hj,if_pos (show j < 5 * (q + 1) by omega)]
      ·simp only [Qs,if_neg hj,if_neg (show ¬ j < 5 * (q + 1) by omega)]
theorem Y3 (b:List (BitVec 64)) (q j:Nat) :
 (if j=5 * q + 4 then Hj b q (5 * q + 4) ^^^ (~~~ Hj b q (5 * q) &&& Hj b q (5 * q + 1)) else if j=5 * q + 3 then Hj b q (5 * q + 3) ^^^ (~~~ Hj b q (5 * q + 4) &&& Hj b q (5 * q))
  else if j=5 * q + 2 then Hj b q (5 * q + 2) ^^^ (~~~ Hj b q (5 * q + 3) &&& Hj b q (5 * q + 4)) else if j=5 * q + 1 then Hj b q (5 * q + 1) ^^^ (~~~ Hj b q (5 * q + 2) &&& Hj b q (5 * q + 3))
  else if j=5 * q then Hj b q (5 * q) ^^^ (~~~ Hj b q (5 * q + 1) &&& Hj b q (5 * q + 2)) else Hj b q j)=Hj b (q + 1) j:=by
 have raw:∀ c,Hj b q (5 * q + c)=b.getD (5 * q + c) 0:=fun c=>by simp only [Hj,if_neg (show ¬ 5 * q + c < 5 * q by omega)]
 have raw0:Hj b q (5 * q)=b.getD (5 * q) 0:=raw 0;have key:∀ c,c < 5→Hj b (q + 1) (5 * q + c)=b.getD (5 * q + c) 0 ^^^ (~~~ b.getD (5 * q + (c + 1) % 5) 0 &&& b.getD (5 * q + (c + 2) % 5) 0):=fun c hc=>by
  have e0:(5 * q + c) / 5=q:=Aa;have e1:(5 * q + c + 1) % 5=(c + 1) % 5:=Aa;have e2:(5 * q + c + 2) % 5=(c + 2) % 5:=Aa;simp only [Hj,if_pos (show 5 * q + c < 5 * (q + 1) by omega),e0,e1,e2]
 simp only [raw,raw0];split
 ·rename_i h;rw [h,key 4 Aa];rfl
 ·split
  ·rename_i h;rw [h,key 3 Aa];rfl
  ·split
   ·rename_i h;rw [h,key 2 Aa]
   ·split
    ·rename_i h;rw [h,key 1 Aa]
    ·split
     ·rename_i h;rw [h];exact (key 0 Aa).symm
     ·by_cases hj:j < 5 * q
      ·simp only [Hj,if_pos hj,if_pos (show j < 5 * (q + 1) by omega)]
      ·simp only [Hj,if_neg hj,if_neg (show ¬ j < 5 * (q + 1) by omega)]
def rnd (s:List (BitVec 64)) (n:Nat):List (BitVec 64) :=
 (List.range 25).map fun j=>if j=0 then Hj (Ng (th s) 24).2 5 0 ^^^ rc.getD n 0 else Hj (Ng (th s) 24).2 5 j
def Qv (s:List (BitVec 64)):Nat→List (BitVec 64)
 | 0=>s
 | n + 1=>rnd (Qv s n) n
def YL (s:List (BitVec 64)):List (BitVec 64):=Qv s 24
theorem XC (s:List (BitVec 64)) (n j:Nat) (hj:j < 25):(rnd s n).getD j 0=if j=0 then Hj (Ng (th s) 24).2 5 0 ^^^ rc.getD n 0 else Hj (Ng (th s) 24).2 5 j:=by
 simp [rnd,List.getD,List.getElem?_map,List.getElem?_range hj]
theorem OA {M:Seat} (hc:Ar M 417 Ajn=true) (hrot:Ar M 462 Aaf=true) (s:List (BitVec 64)) :
 Ae M 417 [.ar 1 25 (ws s)] [] 0 (Q3 (.ar 1 25 (ws (YL s))) [] 0):=by
 refine Ab hc rfl fun x hx=>?_;refine es 30 ?_;simp (maxSteps:=2000000) only [Ajn,At4,FU,↓Ac,ex,Ro,Bd,Br,Af,Nat.reduceLT,Int.reduceLE,Int.reduceLT,Nat.reducePow,Nat.reduceAnd,Nat.reduceOr,Nat.reduceShiftRight,Int.reduceToNat,reduceCtorEq,Nat.reduceAdd,Nat.reduceMul,Nat.reduceSub,Nat.reduceBEq,Nat.reduceEqDiff];refine Am (σ:=Nat × List (BitVec 64)) (fun i=>i.1≤24∧i.2=Qv s i.1) (fun i=>fr 270 [(1,.ptr 0 []),(2,.ptr 1 []),(27,.ar 1 24 (ws rc)),(28,.int .i64 i.1)])
  (fun i=>[(0,.ar 1 25 (ws i.2)),(1,.ar 1 25 (fun _=>W 0))]) (fun _=>2) (fun i=>24 - i.1) (0,s) ⟨by simp,rfl⟩ ?_ ?_
 ·refine Ak.fr [0,16] [] hx AG Al ?_ ?_
  ·simp only [MF,Nat.reduceLT,reduceCtorEq,Nat.reduceEqDiff];exact ⟨fun _ _=>trivial,rfl⟩
  ·simp only [MF,Nat.reduceLT,reduceCtorEq,Nat.reduceEqDiff];exact ⟨⟨rfl,fun _ _=>trivial⟩,fun _ _=>by simp only [W,Ay];rfl⟩
 ·intro i ⟨hi,hii⟩;refine es 40 ?_;simp (maxSteps:=2000000) only [FU,↓Ac,ex,Ro,Bd,Br,Af,Nat.reduceLT,Int.reduceLE,Int.reduceLT,Nat.reducePow,Nat.reduceAnd,Nat.reduceOr,Nat.reduceShiftRight,Int.reduceToNat,reduceCtorEq,Nat.reduceAdd,Nat.reduceMul,Nat.reduceSub,Nat.reduceBEq,Nat.reduceEqDiff];refine ⟨fun hlt=>?_,fun hge=>?_⟩
  ·have hlt:(i.1:Int) < 24:=VM;refine ⟨⟨by omega,by omega⟩,?_⟩;refine AZ (E2 hrot _ 1 Aa) ⟨rfl,rfl,trivial⟩ rfl ?_;simp (maxSteps:=2000000) only [FU,↓Ac,ex,Ro,Bd,Br,Af,Nat.reduceLT,Int.reduceLE,Int.reduceLT,Nat.reducePow,Nat.reduceAnd,Nat.reduceOr,Nat.reduceShiftRight,Int.reduceToNat,reduceCtorEq,Nat.reduceAdd,Nat.reduceMul,Nat.reduceSub,Nat.reduceBEq,Nat.reduceEqDiff];refine AZ (E2 hrot _ 1 Aa) ⟨rfl,rfl,trivial⟩ rfl ?_;simp (maxSteps:=2000000) only [FU,↓Ac,ex,Ro,Bd,Br,Af,Nat.reduceLT,Int.reduceLE,Int.reduceLT,Nat.reducePow,Nat.reduceAnd,Nat.reduceOr,Nat.reduceShiftRight,Int.reduceToNat,reduceCtorEq,Nat.reduceAdd,Nat.reduceMul,Nat.reduceSub,Nat.reduceBEq,Nat.reduceEqDiff];refine AZ (E2 hrot _ 1 Aa) ⟨rfl,rfl,trivial⟩ rfl ?_;simp (maxSteps:=2000000) only [FU,↓Ac,ex,Ro,Bd,Br,Af,Nat.reduceLT,Int.reduceLE,Int.reduceLT,Nat.reducePow,Nat.reduceAnd,Nat.reduceOr,Nat.reduceShiftRight,Int.reduceToNat,reduceCtorEq,Nat.reduceAdd,Nat.reduceMul,Nat.reduceSub,Nat.reduceBEq,Nat.reduceEqDiff];refine AZ (E2 hrot _ 1 Aa) ⟨rfl,rfl,trivial⟩ rfl ?_;simp (maxSteps:=2000000) only [FU,↓Ac,ex,Ro,Bd,Br,Af,Nat.reduceLT,Int.reduceLE,Int.reduceLT,Nat.reducePow,Nat.reduceAnd,Nat.reduceOr,Nat.reduceShiftRight,Int.reduceToNat,reduceCtorEq,Nat.reduceAdd,Nat.reduceMul,Nat.reduceSub,Nat.reduceBEq,Nat.reduceEqDiff];refine AZ (E2 hrot _ 1 Aa) ⟨rfl,rfl,trivial⟩ rfl ?_;simp (maxSteps:=2000000) only [FU,↓Ac,ex,Ro,Bd,Br,Af,Nat.reduceLT,Int.reduceLE,Int.reduceLT,Nat.reducePow,Nat.reduceAnd,Nat.reduceOr,Nat.reduceShiftRight,Int.reduceToNat,reduceCtorEq,Nat.reduceAdd,Nat.reduceMul,Nat.reduceSub,Nat.reduceBEq,Nat.reduceEqDiff];refine Am (σ:=Nat) (fun q=>q≤5) (fun q=>fr 270 [(1,.ptr 0 []),(2,.ptr 1 []),(4,W (rc.getD i.1 0)),(10,W (UH i.2 0)),(11,W (UH i.2 1)),(12,W (UH i.2 2)),(13,W (UH i.2 3)),(14,W (UH i.2 4)),(15,.int .i64 (5 * q:Nat)),(27,.ar 1 24 (ws rc)),(28,.int .i64 i.1)])
    (fun q=>[(0,.ar 1 25 (fun j=>W (Qs i.2 q j))),(1,.ar 1 25 (fun _=>W 0))]) (fun _=>2) (fun q=>5 - q) 0 Aa ?_ ?_
   ·refine Ak.fr [0,1] [] hx AG Al ?_ ?_
    ·simp only [MF,Nat.reduceLT,reduceCtorEq,Nat.reduceEqDiff];exact ⟨rfl,rfl,rfl,rfl,rfl,rfl,fun _ _=>trivial⟩
    ·simp only [MF,Nat.reduceLT,reduceCtorEq,Nat.reduceEqDiff];exact ⟨fun j _=>by simp [Qs],rfl,fun _ _=>trivial⟩
   ·intro q hq;refine es 40 ?_;simp (maxSteps:=2000000) only [FU,↓Ac,ex,Ro,Bd,Br,Af,Nat.reduceLT,Int.reduceLE,Int.reduceLT,Nat.reducePow,Nat.reduceAnd,Nat.reduceOr,Nat.reduceShiftRight,Int.reduceToNat,reduceCtorEq,Nat.reduceAdd,Nat.reduceMul,Nat.reduceSub,Nat.reduceBEq,Nat.reduceEqDiff];refine ⟨fun hlt2=>?_,fun hge2=>?_⟩
    ·have hlt2:((5 * q:Nat):Int) < 25:=by simpa using hlt2
     refine ⟨by omega,by omega,by omega,by omega,by omega,by omega,by omega,by omega,by omega,by omega,by omega,by omega,by omega,by omega,by omega,by omega,by omega,q + 1,by omega,by omega,?_⟩;have w1:IntKind.i64.wrap (((5 * q:Nat):Int) + 5)=((5 * (q + 1):Nat):Int):=AW;refine Ak.fr [0,1] [] hx AG Al ?_ ?_
     ·simp only [MF,Nat.reduceLT,reduceCtorEq,Nat.reduceEqDiff,w1];exact fun _ _=>trivial
     ·simp only [MF,Nat.reduceLT,reduceCtorEq,Nat.reduceEqDiff];exact ⟨fun j _=>ZV _ _ _,rfl,fun _ _=>trivial⟩
    ·have hge2:¬ ((5 * q:Nat):Int) < 25:=by simpa using hge2
     have hq5:q=5:=Aa;subst hq5;refine Am (σ:=Nat) (fun p=>p≤24) (fun p=>fr 270 [(1,.ptr 0 []),(2,.ptr 1 []),(4,W (rc.getD i.1 0)),(17,W (Ng (th i.2) p).1),(27,.ar 1 24 (ws rc)),(28,.int .i64 i.1),(175,.ar 1 24 (fun i=>.int .i64 (lanes.getD i 0))),(176,.int .i64 p)])
      (fun p=>[(0,.ar 1 25 (ws (Ng (th i.2) p).2)),(1,.ar 1 25 (fun _=>W 0))]) (fun _=>2) (fun p=>24 - p) 0 Aa ?_ ?_
     ·refine Ak.fr [0,1] [] hx AG Al ?_ ?_
      ·simp only [MF,Nat.reduceLT,reduceCtorEq,Nat.reduceEqDiff];exact ⟨(ZR _ 1 Aa).symm,fun _ _=>trivial,fun _ _=>trivial,rfl⟩
      ·simp only [MF,Nat.reduceLT,reduceCtorEq,Nat.reduceEqDiff];exact ⟨fun j hj=>(ZR _ j hj).symm,rfl,fun _ _=>trivial⟩
     ·intro p hp;refine es 40 ?_;simp (maxSteps:=2000000) only [FU,↓Ac,ex,Ro,Bd,Br,Af,Nat.reduceLT,Int.reduceLE,Int.reduceLT,Nat.reducePow,Nat.reduceAnd,Nat.reduceOr,Nat.reduceShiftRight,Int.reduceToNat,reduceCtorEq,Nat.reduceAdd,Nat.reduceMul,Nat.reduceSub,Nat.reduceBEq,Nat.reduceEqDiff];refine ⟨fun hlt3=>?_,fun hge3=>?_⟩
      ·have hlt3:(p:Int) < 24:=by simpa using hlt3
       have ht:=YX p Aa;have hl:=ZE p Aa;have ht2:turns.getD p 0=((turns.getD p 0).toNat:Int):=Aa;have hcall:=E2 hrot (Ng (th i.2) p).1 (turns.getD p 0).toNat Aa;rw [← ht2] at hcall;refine ⟨⟨by omega,by omega⟩,⟨⟨by omega,by omega⟩,by omega⟩,_,_,AZ hcall ⟨rfl,rfl,trivial⟩ rfl ⟨rfl,rfl⟩,?_⟩;simp (maxSteps:=2000000) only [FU,↓Ac,ex,Ro,Bd,Br,Af,Nat.reduceLT,Int.reduceLE,Int.reduceLT,Nat.reducePow,Nat.reduceAnd,Nat.reduceOr,Nat.reduceShiftRight,Int.reduceToNat,reduceCtorEq,Nat.reduceAdd,Nat.reduceMul,Nat.reduceSub,Nat.reduceBEq,Nat.reduceEqDiff];refine ⟨hl,by omega,⟨by omega,by omega⟩,hl,by omega,p + 1,by omega,by omega,?_⟩;have w1:IntKind.i64.wrap ((p:Int) + 1)=((p + 1:Nat):Int):=AW;refine Ak.fr [0,1] [] hx AG Al ?_ ?_
       ·simp only [MF,Nat.reduceLT,reduceCtorEq,Nat.reduceEqDiff,w1];exact ⟨rfl,fun _ _=>trivial⟩
       ·simp only [MF,Nat.reduceLT,reduceCtorEq,Nat.reduceEqDiff];exact ⟨fun j hj=>(Zd _ _ _ _ (by rw [OP _ (Abd _)];omega)).symm,rfl,fun _ _=>trivial⟩
      ·have hge3:¬ (p:Int) < 24:=by simpa using hge3
       have hp24:p=24:=Aa;subst hp24;refine Am (σ:=Nat) (fun q=>q≤5) (fun q=>fr 270 [(1,.ptr 0 []),(2,.ptr 1 []),(4,W (rc.getD i.1 0)),(20,.int .i64 (5 * q:Nat)),(27,.ar 1 24 (ws rc)),(28,.int .i64 i.1)])
        (fun q=>[(0,.ar 1 25 (fun j=>W (Hj (Ng (th i.2) 24).2 q j))),(1,.ar 1 25 (fun _=>W 0))]) (fun _=>2) (fun q=>5 - q) 0 Aa ?_ ?_
       ·refine Ak.fr [0,1] [] hx AG Al ?_ ?_
        ·simp only [MF,Nat.reduceLT,reduceCtorEq,Nat.reduceEqDiff];exact ⟨rfl,fun _ _=>trivial⟩
        ·simp only [MF,Nat.reduceLT,reduceCtorEq,Nat.reduceEqDiff];exact ⟨fun j _=>by simp [Hj],rfl,fun _ _=>trivial⟩
       ·intro q hq;refine es 40 ?_;simp (maxSteps:=2000000) only [FU,↓Ac,ex,Ro,Bd,Br,Af,Nat.reduceLT,Int.reduceLE,Int.reduceLT,Nat.reducePow,Nat.reduceAnd,Nat.reduceOr,Nat.reduceShiftRight,Int.reduceToNat,reduceCtorEq,Nat.reduceAdd,Nat.reduceMul,Nat.reduceSub,Nat.reduceBEq,Nat.reduceEqDiff];refine ⟨fun hlt4=>?_,fun hge4=>?_⟩
        ·have hlt4:((5 * q:Nat):Int) < 25:=by simpa using hlt4
         refine ⟨by omega,by omega,by omega,by omega,by omega,by omega,by omega,by omega,by omega,by omega,by omega,by omega,by omega,by omega,by omega,by omega,by omega,q + 1,by omega,by omega,?_⟩;have w1:IntKind.i64.wrap (((5 * q:Nat):Int) + 5)=((5 * (q + 1):Nat):Int):=AW;refine Ak.fr [0,1] [] hx AG Al ?_ ?_
         ·simp only [MF,Nat.reduceLT,reduceCtorEq,Nat.reduceEqDiff,w1];exact fun _ _=>trivial
         ·simp only [MF,Nat.reduceLT,reduceCtorEq,Nat.reduceEqDiff];exact ⟨fun j _=>Y3 _ _ _,rfl,fun _ _=>trivial⟩
        ·have hge4:¬ ((5 * q:Nat):Int) < 25:=by simpa using hge4
         have hq5:q=5:=Aa;subst hq5;have w1:IntKind.i64.wrap ((i.1:Int) + 1)=((i.1 + 1:Nat):Int):=AW;refine ⟨(i.1 + 1,rnd i.2 i.1),⟨by simp only;omega,by simp only [Qv,hii]⟩,by simp only;omega,?_⟩;refine Ak.fr [0,1] [] hx AG Al ?_ ?_
         ·simp only [MF,Nat.reduceLT,reduceCtorEq,Nat.reduceEqDiff,w1];exact fun _ _=>trivial
         ·simp only [MF,Nat.reduceLT,reduceCtorEq,Nat.reduceEqDiff];exact ⟨fun j hj=>(XC _ _ _ hj).symm,rfl,fun _ _=>trivial⟩
  ·have hge:¬ (i.1:Int) < 24:=W0;have hi24:i.1=24:=Aa;refine Ap.mk hx [] [] (.ar 1 25 (ws (YL s))) [] 0 Al ?_ ?_ ?_ ⟨rfl,rfl,rfl⟩
   ·simp only [EL,Ii,FU,↓Ac,ex,Ro,Bd,Br,Af,Nat.reduceLT,Int.reduceLE,Int.reduceLT,Nat.reducePow,Nat.reduceAnd,Nat.reduceOr,Nat.reduceShiftRight,Int.reduceToNat,reduceCtorEq,Nat.reduceAdd,Nat.reduceMul,Nat.reduceSub,Nat.reduceBEq,Nat.reduceEqDiff]
   ·simp only [EL,Fe,FU,↓Ac,ex,Ro,Bd,Br,Af,Nat.reduceLT,Int.reduceLE,Int.reduceLT,Nat.reducePow,Nat.reduceAnd,Nat.reduceOr,Nat.reduceShiftRight,Int.reduceToNat,reduceCtorEq,Nat.reduceAdd,Nat.reduceMul,Nat.reduceSub,Nat.reduceBEq,Nat.reduceEqDiff,LS,La4];intro j hj;rw [hii,hi24,YL]
   ·trivial
variable {M:Seat}
def Nd (s:List (BitVec 64)) (p:Nat→BitVec 8):List (BitVec 64):=YL (mix s p)
theorem Hl (ok:OkM M) (s:List (BitVec 64)) (p:Nat→BitVec 8) :
 Ae M 318 [.ar 1 25 (ws s),.lst 1 136 (fun j=>B (p j))] [] 0 (Q3 (.ar 1 25 (ws (Nd s p))) [] 0):=by
 refine Ab ok.k318 rfl fun x hx=>?_;refine es 30 ?_;simp only [Ap1,Ars,FU,↓Ac,ex,Ro,Bd,Br,Af,Nat.reduceLT,Int.reduceLE,Int.reduceLT,Nat.reducePow,Nat.reduceAnd,Nat.reduceOr,Nat.reduceShiftRight,Int.reduceToNat,reduceCtorEq,Nat.reduceAdd,Nat.reduceMul,Nat.reduceSub,Nat.reduceBEq,Nat.reduceEqDiff];refine Am (σ:=Nat) (fun i=>i≤17) (fun i=>fr 38 [(1,.lst 1 136 (fun j=>B (p j))),(2,.ptr 0 []),(4,.ptr 1 []),(8,.int .i64 i)])
  (fun i=>[(0,.ar 1 25 (fun j=>W (T4 s p i 0 j))),(1,.ar 1 25 (fun _=>W 0))]) (fun _=>2) (fun i=>17 - i) 0 Aa ?_ ?_
 ·refine Ak.fr [0,16] [] hx AG Al ?_ ?_
  ·simp only [BE,Nat.reduceLT,reduceCtorEq,Nat.reduceEqDiff,Nat.reduceLeDiff,Nat.reduceBEq]
  ·simp only [BE,Nat.reduceLT,reduceCtorEq,Nat.reduceEqDiff,Nat.reduceLeDiff,Nat.reduceBEq];exact ⟨fun j _=>(Apl _ _ _).symm,fun _ _=>by simp only [W,Ay];rfl⟩
 ·intro i hi;refine es 40 ?_;simp only [FU,↓Ac,ex,Ro,Bd,Br,Af,Nat.reduceLT,Int.reduceLE,Int.reduceLT,Nat.reducePow,Nat.reduceAnd,Nat.reduceOr,Nat.reduceShiftRight,Int.reduceToNat,reduceCtorEq,Nat.reduceAdd,Nat.reduceMul,Nat.reduceSub,Nat.reduceBEq,Nat.reduceEqDiff];refine ⟨fun hlt=>?_,fun hge=>?_⟩
  ·have hlt:(i:Int) < 17:=VM;have w1:IntKind.i64.wrap (8 * (i:Int))=8 * i:=Bu Aa;have w2:IntKind.i64.wrap (8 * (i:Int) + 8)=8 * i + 8:=Bu Aa;simp only [w1,w2];refine ⟨⟨by omega,by omega,by omega⟩,?_⟩;refine Am (σ:=Nat) (fun k=>k≤8) (fun k=>fr 38 [(1,.lst 1 136 (fun j=>B (p j))),(2,.ptr 0 []),(4,.ptr 1 []),(5,.int .i64 i),(8,.int .i64 i),(17,.lst 1 8 (fun j=>B (p (8 * i + j)))),(18,.int .i64 8),(19,.int .i64 k)])
    (fun k=>[(0,.ar 1 25 (fun j=>W (T4 s p i k j))),(1,.ar 1 25 (fun _=>W 0))]) (fun _=>2) (fun k=>8 - k) 0 Aa ?_ ?_
   ·refine Ak.fr [0,1] [] hx AG Al ?_ ?_
    ·simp only [BE,Nat.reduceLT,reduceCtorEq,Nat.reduceEqDiff,Nat.reduceLeDiff,Nat.reduceBEq];refine ⟨⟨by omega,fun j _=>?_⟩,by omega⟩;have e1:(8 * (i:Int)).toNat=8 * i:=Aa;rw [e1]
    ·simp only [BE,Nat.reduceLT,reduceCtorEq,Nat.reduceEqDiff,Nat.reduceLeDiff,Nat.reduceBEq]
   ·intro k hk;(refine es 40 ?_;simp (maxSteps:=2000000) only [D3,↓Ac,ex,Ro,Bd,Br,Af,Nat.reduceLT,Int.reduceLE,Int.reduceLT,Nat.reducePow,Nat.reduceAnd,Nat.reduceOr,Nat.reduceShiftRight,Int.reduceToNat,reduceCtorEq,Nat.reduceAdd,Nat.reduceMul,Nat.reduceSub,Nat.reduceBEq,Nat.reduceEqDiff]);refine ⟨fun hlt2=>?_,fun hge2=>?_⟩
    ·have hlt2:(k:Int) < 8:=by simpa using hlt2
     have w3:IntKind.i64.wrap (8 * (k:Int))=8 * k:=Bu Aa;have w4:IntKind.i64.wrap ((k:Int) + 1)=((k + 1:Nat):Int):=AW;have w5:(8 * (k:Int)).toNat=8 * k:=Aa;simp only [w3,w4,w5];refine ⟨⟨by omega,by omega⟩,⟨by omega,by omega⟩,by omega,by omega,by omega,⟨by omega,by omega⟩,by omega,k + 1,by omega,by omega,?_⟩;refine Ak.fr [0,1] [] hx AG Al ?_ ?_
     ·simp only [BE,Nat.reduceLT,reduceCtorEq,Nat.reduceEqDiff,Nat.reduceLeDiff,Nat.reduceBEq]
     ·simp only [BE,Nat.reduceLT,reduceCtorEq,Nat.reduceEqDiff,Nat.reduceLeDiff,Nat.reduceBEq];exact fun j _=>Apk _ _ _ _ _
    ·have hge2:¬ (k:Int) < 8:=by simpa using hge2
     have hk8:k=8:=Aa;subst hk8;have w4:IntKind.i64.wrap ((i:Int) + 1)=((i + 1:Nat):Int):=AW;refine ⟨i + 1,by omega,by omega,?_⟩;refine Ak.fr [0,1] [] hx AG Al ?_ ?_
     ·simp only [BE,Nat.reduceLT,reduceCtorEq,Nat.reduceEqDiff,Nat.reduceLeDiff,Nat.reduceBEq,w4]
     ·simp only [BE,Nat.reduceLT,reduceCtorEq,Nat.reduceEqDiff,Nat.reduceLeDiff,Nat.reduceBEq];exact fun j _=>Asu _ _ _ _
  ·have hge:¬ (i:Int) < 17:=W0;have hi17:i=17:=Aa;subst hi17;refine AZ (OA ok.k417 ok.k462 (mix s p)) ⟨?_,trivial⟩ rfl ?_
   ·simp only [BE,Nat.reduceLT,reduceCtorEq,Nat.reduceEqDiff,Nat.reduceLeDiff,Nat.reduceBEq];exact fun j hj=>(Yl _ _ _ hj).symm
   simp only [FU,↓Ac,ex,Ro,Bd,Br,Af,Nat.reduceLT,Int.reduceLE,Int.reduceLT,Nat.reducePow,Nat.reduceAnd,Nat.reduceOr,Nat.reduceShiftRight,Int.reduceToNat,reduceCtorEq,Nat.reduceAdd,Nat.reduceMul,Nat.reduceSub,Nat.reduceBEq,Nat.reduceEqDiff];refine Ap.mk hx [] [] (.ar 1 25 (ws (Nd s p))) [] 0 Al ?_ ?_ trivial ⟨rfl,rfl,rfl⟩
   ·simp only [EL,Ii,FU,↓Ac,ex,Ro,Bd,Br,Af,Nat.reduceLT,Int.reduceLE,Int.reduceLT,Nat.reducePow,Nat.reduceAnd,Nat.reduceOr,Nat.reduceShiftRight,Int.reduceToNat,reduceCtorEq,Nat.reduceAdd,Nat.reduceMul,Nat.reduceSub,Nat.reduceBEq,Nat.reduceEqDiff]
   ·simp only [La6,LR,↓Ac,ex,Ro,Bd,Br,Af,Nat.reduceLT,Int.reduceLE,Int.reduceLT,Nat.reducePow,Nat.reduceAnd,Nat.reduceOr,Nat.reduceShiftRight,Int.reduceToNat,reduceCtorEq,Nat.reduceAdd,Nat.reduceMul,Nat.reduceSub,Nat.reduceBEq,Nat.reduceEqDiff,Nat.reduceLeDiff];exact fun _ _=>rfl
theorem JL (ok:OkM M) (s:List (BitVec 64)) :
 Ae M 317 [.ar 1 25 (ws s)] [] 0 (Q3 (dg (Yr s)) [] 0):=by
 refine Ab ok.k317 rfl fun x hx=>?_;refine es 30 ?_;simp only [Ap2,Atk,FU,↓Ac,ex,Ro,Bd,Br,Af,Nat.reduceLT,Int.reduceLE,Int.reduceLT,Nat.reducePow,Nat.reduceAnd,Nat.reduceOr,Nat.reduceShiftRight,Int.reduceToNat,reduceCtorEq,Nat.reduceAdd,Nat.reduceMul,Nat.reduceSub,Nat.reduceBEq,Nat.reduceEqDiff];refine Am (σ:=Nat) (fun i=>i≤32) (fun i=>fr 21 [(1,.ptr 0 []),(2,.ptr 1 []),(3,.ptr 2 []),(5,.int .i64 i)])
  (fun i=>[(0,.ar 1 25 (ws s)),(1,.ar 1 32 (fun _=>B 0)),(2,.ar 1 32 (fun j=>B (if j < i then (Yr s).at j else 0)))]) (fun _=>3) (fun i=>32 - i) 0 Aa ?_ ?_
 ·refine Ak.fr [0,16,32] [] hx AG Al ?_ ?_
  ·simp only [BE,Nat.reduceLT,reduceCtorEq,Nat.reduceEqDiff,Nat.reduceLeDiff,Nat.reduceBEq]
  ·simp only [BE,Nat.reduceLT,reduceCtorEq,Nat.reduceEqDiff,Nat.reduceLeDiff,Nat.reduceBEq];exact ⟨fun _ _=>by simp only [B,Ay];rfl,fun _ _=>by rw [if_neg Aa];simp only [B,Ay];rfl⟩
 ·intro i hi;(refine es 40 ?_;simp (maxSteps:=2000000) only [D3,↓Ac,ex,Ro,Bd,Br,Af,Nat.reduceLT,Int.reduceLE,Int.reduceLT,Nat.reducePow,Nat.reduceAnd,Nat.reduceOr,Nat.reduceShiftRight,Int.reduceToNat,reduceCtorEq,Nat.reduceAdd,Nat.reduceMul,Nat.reduceSub,Nat.reduceBEq,Nat.reduceEqDiff]);refine ⟨fun hlt=>?_,fun hge=>?_⟩
  ·have hlt:(i:Int) < 32:=VM;have w1:IntKind.i64.wrap ((i:Int) + 1)=((i + 1:Nat):Int):=AW;have w2:IntKind.i64.wrap ((i:Int).tdiv 8)=((i / 8:Nat):Int):=by rw [Int.tdiv_eq_ediv_of_nonneg Aa,Bu Aa];omega
   have w3:IntKind.i64.wrap (8 * (i:Int).tmod 8)=((8 * (i % 8):Nat):Int):=by rw [Int.tmod_eq_emod_of_nonneg Aa,Bu Aa];omega
   simp only [w1,w2,w3,Int.toNat_natCast];refine ⟨by omega,⟨by omega,by omega⟩,by omega,by omega,by omega,⟨by omega,by omega⟩,by omega,i + 1,by omega,by omega,?_⟩;refine Ak.fr [0,1,2] [] hx AG Al ?_ ?_
   ·simp only [BE,Nat.reduceLT,reduceCtorEq,Nat.reduceEqDiff,Nat.reduceLeDiff,Nat.reduceBEq]
   ·simp only [BE,Nat.reduceLT,reduceCtorEq,Nat.reduceEqDiff,Nat.reduceLeDiff,Nat.reduceBEq];intro j hj;by_cases hji:j=i
    ·subst hji;rw [if_pos rfl,if_pos Aa,Yr,Dg.at_mk' _ _ hj]
    ·rw [if_neg hji];by_cases h2:j < i
     ·rw [if_pos h2,if_pos Aa]
     ·rw [if_neg h2,if_neg Aa]
  ·have hge:¬ (i:Int) < 32:=W0;have hi17:i=32:=Aa;subst hi17;refine Ap.mk hx [] [] (dg (Yr s)) [] 0 Al ?_ ?_ trivial ⟨rfl,rfl,rfl⟩
   ·simp only [EL,Ii,FU,↓Ac,ex,Ro,Bd,Br,Af,Nat.reduceLT,Int.reduceLE,Int.reduceLT,Nat.reducePow,Nat.reduceAnd,Nat.reduceOr,Nat.reduceShiftRight,Int.reduceToNat,reduceCtorEq,Nat.reduceAdd,Nat.reduceMul,Nat.reduceSub,Nat.reduceBEq,Nat.reduceEqDiff]
   ·simp only [La6,LR,↓Ac,ex,Ro,Bd,Br,Af,Nat.reduceLT,Int.reduceLE,Int.reduceLT,Nat.reducePow,Nat.reduceAnd,Nat.reduceOr,Nat.reduceShiftRight,Int.reduceToNat,reduceCtorEq,Nat.reduceAdd,Nat.reduceMul,Nat.reduceSub,Nat.reduceBEq,Nat.reduceEqDiff,Nat.reduceLeDiff,dg];intro j hj;rw [if_pos hj]
def BP (a b:Dg):Dg:=Yr (Nd (List.replicate 25 0) (Zn a b))
theorem Ah7 (a b:Dg) (j:Nat):(if j=135 then V.int .u8 128 else if j=64 then V.int .u8 1 else if 32≤j∧j < 32 + min 32 104 then B (b.at (j - 32)) else if 0≤j∧j < min 32 136 then B (a.at (j - 0)) else V.int .u8 0)=B (Zn a b j):=by
 have h1:V.int .u8 128=B 128:=rfl;have h2:V.int .u8 1=B 1:=rfl;have h3:V.int .u8 0=B 0:=rfl;simp only [h1,h2,h3,Ns,Zn]
 congr 1
 repeat' split
 all_goals first | rfl | omega
theorem BB (ok:OkM M) (a b:Dg) :
 Ae M 207 [dg a,dg b] [] 0 (Q3 (dg (BP a b)) [] 0):=by
 refine Ab ok.k207 rfl fun x hx=>?_;refine es 30 ?_;simp only [Aru,Ar4,dg,FU,↓Ac,ex,Ro,Bd,Br,Af,Nat.reduceLT,Int.reduceLE,Int.reduceLT,Nat.reducePow,Nat.reduceAnd,Nat.reduceOr,Nat.reduceShiftRight,Int.reduceToNat,reduceCtorEq,Nat.reduceAdd,Nat.reduceMul,Nat.reduceSub,Nat.reduceBEq,Nat.reduceEqDiff];first | refine ⟨⟨by omega,by omega⟩,⟨by omega,by omega⟩,?_,?_,?_⟩ | refine ⟨?_,?_,?_⟩
 ·rw [if_neg Aa,if_neg Aa];rfl
 ·rw [if_neg Aa,if_neg Aa];rfl
 refine L8 [48] (Hl ok (List.replicate 25 0) (Zn a b)) ?_ rfl ?_
 ·simp only [BE,Nat.reduceLT,reduceCtorEq,Nat.reduceEqDiff,Nat.reduceLeDiff,Nat.reduceBEq,Ah7];intro j hj;have e1:(List.replicate 25 (0:BitVec 64)).getD j 0=0:=by rw [List.getD,List.getElem?_replicate,if_pos hj];rfl
  rw [e1];simp only [W,Ay];rfl
 simp only [AB,FU,↓Ac,ex,Ro,Bd,Br,Af,Nat.reduceLT,Int.reduceLE,Int.reduceLT,Nat.reducePow,Nat.reduceAnd,Nat.reduceOr,Nat.reduceShiftRight,Int.reduceToNat,reduceCtorEq,Nat.reduceAdd,Nat.reduceMul,Nat.reduceSub,Nat.reduceBEq,Nat.reduceEqDiff];refine AZ (JL ok (Nd (List.replicate 25 0) (Zn a b))) ?_ rfl ?_
 ·simp only [BE,Nat.reduceLT,reduceCtorEq,Nat.reduceEqDiff,Nat.reduceLeDiff,Nat.reduceBEq]
 simp only [dg,FU,↓Ac,ex,Ro,Bd,Br,Af,Nat.reduceLT,Int.reduceLE,Int.reduceLT,Nat.reducePow,Nat.reduceAnd,Nat.reduceOr,Nat.reduceShiftRight,Int.reduceToNat,reduceCtorEq,Nat.reduceAdd,Nat.reduceMul,Nat.reduceSub,Nat.reduceBEq,Nat.reduceEqDiff];refine Ap.mk hx [] [] (dg (BP a b)) [] 0 Al ?_ ?_ trivial ⟨rfl,rfl,rfl⟩
 ·simp only [EL,Ii,FU,↓Ac,ex,Ro,Bd,Br,Af,Nat.reduceLT,Int.reduceLE,Int.reduceLT,Nat.reducePow,Nat.reduceAnd,Nat.reduceOr,Nat.reduceShiftRight,Int.reduceToNat,reduceCtorEq,Nat.reduceAdd,Nat.reduceMul,Nat.reduceSub,Nat.reduceBEq,Nat.reduceEqDiff]
 ·simp only [La6,LR,↓Ac,ex,Ro,Bd,Br,Af,Nat.reduceLT,Int.reduceLE,Int.reduceLT,Nat.reducePow,Nat.reduceAnd,Nat.reduceOr,Nat.reduceShiftRight,Int.reduceToNat,reduceCtorEq,Nat.reduceAdd,Nat.reduceMul,Nat.reduceSub,Nat.reduceBEq,Nat.reduceEqDiff,Nat.reduceLeDiff,dg];exact fun _ _=>rfl
def A4:Nat→Dg
 | 0=>Dg.zero
 | h + 1=>BP (A4 h) (A4 h)
theorem Ir {M:Seat} (ok:OkM M) :
 Ae M 315 [] [] 0 (Q3 (.ar 32 17 (fun j=>dg (A4 j))) [] 0):=by
 refine Ab ok.k315 rfl fun x hx=>?_;refine es 30 ?_;simp only [Apu,Asz,FU,↓Ac,ex,Ro,Bd,Br,Af,seval];refine Am (σ:=Nat) (fun i=>1≤i∧i≤17) (fun i=>fr 19 [(0,.ptr 0 []),(1,.ptr 1 []),(2,.int .i64 i)])
  (fun i=>[(0,.ar 32 17 (fun _=>dg Dg.zero)),(1,.ar 32 17 (fun j=>dg (if j < i then A4 j else Dg.zero)))]) (fun _=>2) (fun i=>17 - i) 1 Aa ?_ ?_
 ·refine Ak.fr [0,16] [] hx AG Al ?_ ?_
  ·simp only [BE,seval]
  ·simp only [BE,seval,dg0];intro j hj;by_cases h:j < 1
   ·rw [if_pos h];have:j=0:=Aa;subst this;rfl
   ·rw [if_neg h]
 ·intro i ⟨hi1,hi⟩;(refine es 40 ?_;simp (maxSteps:=2000000) only [D3,↓Ac,ex,Ro,Bd,Br,Af,seval]);refine ⟨fun hlt=>?_,fun hge=>?_⟩
  ·have hlt:(i:Int)≤16:=VM;have w1:IntKind.i64.wrap ((i:Int) - 1)=((i - 1:Nat):Int):=AW;have w2:IntKind.i64.wrap ((i:Int) + 1)=((i + 1:Nat):Int):=AW;simp only [w1,Int.toNat_natCast,if_pos (show i - 1 < i by omega)];repeat refine sd ?_
   refine ⟨_,_,AZ (BB ok _ _) ⟨(AJ _ _ _ _ _).mpr rfl,(AJ _ _ _ _ _).mpr rfl,trivial⟩ rfl ⟨rfl,rfl⟩,?_⟩;simp only [FU,↓Ac,ex,Ro,Bd,Br,Af,seval];repeat refine sd ?_
   refine ⟨i + 1,⟨by omega,by omega⟩,by omega,?_⟩;refine Ak.fr [0,1] [] hx AG Al ?_ ?_
   ·simp only [BE,seval,w2]
   ·simp only [BE,seval];intro j hj;by_cases h1:j=i
    ·subst h1;rw [if_pos rfl,if_pos Aa];obtain ⟨p,rfl⟩:∃ p,j=p + 1:=⟨j - 1,by omega⟩
     rfl
    ·rw [if_neg h1];by_cases h2:j < i
     ·rw [if_pos h2,if_pos Aa]
     ·rw [if_neg h2,if_neg Aa]
  ·have hge:¬ (i:Int)≤16:=W0;have hi17:i=17:=Aa;subst hi17;refine Ap.mk hx [] [] (.ar 32 17 (fun j=>dg (A4 j))) [] 0 Al ?_ ?_ trivial ⟨rfl,rfl,rfl⟩
   ·simp only [EL,Ii,FU,↓Ac,ex,Ro,Bd,Br,Af,seval]
   ·simp only [La6,LR,↓Ac,ex,Ro,Bd,Br,Af,seval];intro j hj;rw [if_pos hj]
def Ai (a b:V):V:=.tup (.fcons 0 a (.fcons 1 b .fnil))
def B0 (a b c:V):V:=.tup (.fcons 0 a (.fcons 1 b (.fcons 2 c .fnil)))
def Vw:=(UW @LU @La6 @b7 @Ai.eq_1 @B0.eq_1 @H3.eq_1 @H3.eq_2)
theorem VL {M:Seat} (ok:OkM M) (h:Nat) (hh:h≤16) :
 Ae M 197 [.int .i64 h] [] 0 (Q3 (Ai (dg (A4 h)) .nili) [] 0):=by
 refine Ab ok.k197 rfl fun x hx=>?_;refine es 30 ?_;simp only [Ao9,Art,FU,↓Ac,ex,Ro,Bd,Br,Af,seval];have h1:decide ((h:Int) < 0)=false:=B9;have h2:decide ((16:Int) < h)=false:=FY;simp only [h1,h2,FU,↓Ac,ex,Ro,Bd,Br,Af,seval];refine AZ (Ir ok) trivial rfl ?_;simp only [FU,↓Ac,ex,Ro,Bd,Br,Af,seval];repeat refine sd ?_
 refine Ap.mk hx [] [] (Ai (dg (A4 h)) .nili) [] 0 Al ?_ ?_ trivial ⟨rfl,rfl,rfl⟩
 ·simp only [Vk,IL,FU,↓Ac,ex,Ro,Bd,Br,Af,seval];rfl
 ·simp only [La6,H3,Ai,LR,↓Ac,ex,Ro,Bd,Br,Af,seval,dg]
def d9:=@Ai.eq_1
def l5:=@B0.eq_1
end Mv
