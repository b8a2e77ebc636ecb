/- A part. -/
import Derived.Test.YtncipgmjhaiagaaGreatDoorGU
set_option linter.all false
set_option maxRecDepth 20000
set_option maxHeartbeats 4000000
namespace Mv
def Ln (p:Nat):Nat:=(lanes.getD p 0).toNat
def Tn (p:Nat):Nat:=(turns.getD p 0).toNat
def pos:Nat→Nat
 | 0=>1
 | p + 1=>Ln p
theorem Aja:∀ p,p < 24→Ln p < 25:=Ak
theorem Ac9:∀ p,p < 24→∀ q,q < 24→p ≠ q→Ln p ≠ Ln q:=Ak
theorem Agu:∀ j,j < 25→j ≠ 0→∃ p,p < 24∧Ln p=j∧pos p=F8.getD j 0∧Tn p=W3.getD j 0:=Ak
theorem Ad7:∀ p,p < 24→Ln p ≠ 0:=Ak
def N0 (a:List (BitVec 64)):Nat→Nat→BitVec 64
 | 0,j=>a.getD j 0
 | p + 1,j=>if j=Ln p then Qk (a.getD (pos p) 0) (Tn p) else N0 a p j
theorem G5 (a:List (BitVec 64)) (j:Nat):∀ p,(∀ q,q < p→Ln q ≠ j)→N0 a p j=a.getD j 0
 | 0,_=>rfl
 | p + 1,h=>by rw [N0,if_neg (fun e=>h p Aa e.symm),G5 a j p (fun q hq=>h q Aa)]
theorem Pq (a:List (BitVec 64)) (p:Nat):∀ n,p < n→n≤24→N0 a n (Ln p)=Qk (a.getD (pos p) 0) (Tn p)
 | 0,h,_=>by omega
 | n + 1, h, h2 => by
   by_cases e:p=n
   ·subst e;rw [N0,if_pos rfl]
   ·rw [N0,if_neg (Ac9 p Aa n Aa e),Pq a p n Aa Aa]
theorem Sc (a:List (BitVec 64)) (ha:a.length=25):∀ p,p≤24→(Kv a p).1=a.getD (pos p) 0∧∀ j,(Kv a p).2.getD j 0=N0 a p j
 | 0,_=>⟨rfl,fun _=>rfl⟩
 | p + 1, h => by
   obtain ⟨h1,h2⟩:=Sc a ha p Aa
   refine ⟨?_,fun j=>?_⟩
   ·show (Kv a p).2.getD (Ln p) 0=a.getD (Ln p) 0
    rw [h2,G5 a _ p (fun q hq=>Ac9 q Aa p Aa Aa)]
   ·show ((Kv a p).2.set (Ln p) (Qk (Kv a p).1 (Tn p))).getD j 0=N0 a (p + 1) j
    rw [W2 _ _ _ _ (by rw [Nk a ha];exact Aja p Aa),h1,h2,N0]
theorem Adr (x:BitVec 64):Qk x 0=x:=by
 have h:x >>> 64=0:=by
  apply BitVec.eq_of_toNat_eq
  rw [BitVec.toNat_ushiftRight,Nat.shiftRight_eq_div_pow,Nat.div_eq_of_lt x.isLt];rfl
 simp [Qk,h]
theorem V8 (a:List (BitVec 64)) (ha:a.length=25) (j:Nat) (hj:j < 25):(Kv a 24).2.getD j 0=Qk (a.getD (F8.getD j 0) 0) (W3.getD j 0):=by
 rw [(Sc a ha 24 (Nat.le_refl _)).2]
 by_cases h0:j=0
 ·subst h0
  rw [G5 a 0 24 (fun q hq=>Ad7 q hq)]
  exact (Adr _).symm
 ·obtain ⟨p,h1,h2,h3,h4⟩:=Agu j hj h0
  rw [← h2,Pq a p 24 h1 (Nat.le_refl _),h2,h3,h4]
theorem JC:∀ j,j < 25→F8.getD j 0 < 25:=Ak
theorem Ah2 {s:Nat} {l:List (BitVec 64)} (h:St s l) (j:Nat) (hj:j < 25):bN s j=((Kv (th l) 24).2.getD j 0).toNat:=by
 rw [V8 _ (Q8 l) j hj,bN,Aka h _ (JC j hj),OY]
theorem Zy (x:BitVec 64):(~~~x).toNat=18446744073709551615 ^^^ x.toNat:=by
 have h2:BitVec.allOnes 64 ^^^ x = ~~~x:=BitVec.allOnes_xor
 rw [← h2,BitVec.toNat_xor];rfl
theorem Aif {s:Nat} {l:List (BitVec 64)} (h:St s l) (j:Nat) (hj:j < 25):Ah4 s j=(Gd (Kv (th l) 24).2 5 j).toNat:=by
 rw [Gd,if_pos Aa,BitVec.toNat_xor,BitVec.toNat_and,Zy,Ah4,Ah2 h j hj,Ah2 h _ Aa,Ah2 h _ Aa]
theorem Ano (n:Nat) (hn:n < 24):rcN n=(rc.getD n 0).toNat:=by
 have:=Ac7 n hn
 rw [rcN,← this];rfl
theorem Ai2 {s:Nat} {l:List (BitVec 64)} (h:St s l) (n:Nat) (hn:n < 24):St (Aa3 s n) (rnd l n):=by
 intro i hi
 have hw:∀ k,(fun k=>if k < 25 then ((rnd l n).getD k 0).toNat else 0) k < 2 ^ 64:=by
  intro k
  simp only
  split
  ·exact BitVec.isLt _
  ·exact Nat.pow_pos Aa
 have e:Aa3 s n=Cq 64 (fun k=>if k < 25 then ((rnd l n).getD k 0).toNat else 0) 25:=by
  unfold Aa3
  refine Ce 64 25 (fun k hk=>?_)
  rw [if_pos hk,R3 _ _ _ hk,Aif h k hk]
  by_cases h0:k=0
  ·subst h0
   rw [if_pos rfl,if_pos rfl,BitVec.toNat_xor,Ano n hn]
  ·rw [if_neg h0,if_neg h0,Nat.xor_zero]
 have:=Ed 64 _ hw 25 i
 rw [if_pos hi] at this
 simp only [if_pos hi] at this
 rw [LB,e]
 exact this
theorem Wn {s:Nat} {l:List (BitVec 64)} (h:St s l):∀ n,n≤24→St (Aew s n) (H6 l n)
 | 0,_=>h
 | n + 1,hn=>Ai2 (Wn h n Aa) n Aa
theorem Adp (p:Nat→BitVec 8) (q:Nat→Nat) (j:Nat):∀ k,k≤8→(∀ i,i < 8→q (8 * j + i)=(p (8 * j + i)).toNat)→xwN q j k=(YL 0 p j k).toNat
 | 0,_,_=>rfl
 | k + 1, hk, h => by
   rw [xwN,YL,BitVec.toNat_xor,Adp p q j k Aa h,h k Aa,BitVec.toNat_shiftLeft,BitVec.toNat_setWidth]
   have hb:=(p (8 * j + k)).isLt
   rw [Nat.mod_eq_of_lt (by omega:(p (8 * j + k)).toNat < 2 ^ 64)]
theorem Al1 (a b:Dg) (k:Nat) (hk:k < 136):Ag3 (Kb a) (Kb b) k=(UR a b k).toNat:=by
 unfold Ag3 UR
 by_cases h1:k < 32
 ·rw [if_pos h1,if_pos h1,Pi a k h1]
 ·rw [if_neg h1,if_neg h1]
  by_cases h2:k < 64
  ·rw [if_pos h2,if_pos h2,Pi b _ Aa]
  ·rw [if_neg h2,if_neg h2]
   split
   ·rfl
   ·split <;> rfl
theorem Ajf (a b:Dg):St (inN (Kb a) (Kb b)) (mix (List.replicate 25 0) (UR a b)):=by
 intro i hi
 have hrep:(List.replicate 25 (0:BitVec 64)).getD i 0=0:=by rw [List.getD,List.getElem?_replicate,if_pos hi];rfl
 have hw:∀ k,(fun k=>if k < 17 then (YL 0 (UR a b) k 8).toNat else 0) k < 2 ^ 64:=by
  intro k
  simp only
  split
  ·exact BitVec.isLt _
  ·exact Nat.pow_pos Aa
 have e:inN (Kb a) (Kb b)=Cq 64 (fun k=>if k < 17 then (YL 0 (UR a b) k 8).toNat else 0) 25:=by
  unfold inN
  refine Ce 64 25 (fun k hk=>?_)
  by_cases h1:k < 17
  ·rw [if_pos h1,if_pos h1]
   exact Adp (UR a b) _ k 8 (Nat.le_refl _) (fun i hi=>Al1 a b _ Aa)
  ·rw [if_neg h1,if_neg h1]
 have:=Ed 64 _ hw 25 i
 rw [if_pos hi] at this
 rw [LB,e]
 refine Eq.trans this ?_
 rw [Rl _ _ _ hi,Oc,hrep]
 by_cases h1:i < 17
 ·simp only [if_pos h1]
 ·simp only [if_neg h1]
  split <;> rfl
theorem Ae3 {s:Nat} {l:List (BitVec 64)} (h:St s l):Ahx s=Kb (Qf l):=by
 unfold Ahx Kb
 refine Ce 8 32 (fun k hk=>?_)
 rw [Qf,Dg.at_mk' _ _ hk,BitVec.toNat_setWidth,BitVec.toNat_ushiftRight,h (k / 8) Aa]
theorem EO (a b:Dg):Kb (B2 a b)=II (Kb a) (Kb b):=by
 rw [II,B2,HL,RF]
 exact (Ae3 (Wn (Ajf a b) 24 (Nat.le_refl _))).symm
def Hz:Nat→Nat
 | 0=>0
 | h + 1=>II (Hz h) (Hz h)
theorem Aib:Kb Dg.zero=0:=by
 have h:Kb Dg.zero=Cq 8 (fun _=>0) 32:=Ce 8 32 (fun k _=>by simp only [Dg.at_zero];rfl)
 rw [h];decide
theorem KV:∀ h,Kb (Am h)=Hz h
 | 0=>Aib
 | h + 1=>by rw [Am,EO,KV h,Hz]
end Mv
namespace Mv
open Go
theorem Wz (a b:BitVec 64) (H:Hp):AK .or (W a) (W b) H=⟨True,W (a ||| b),H⟩:=GW a b H
theorem Mf {M:Seat} (ok:OkB M) (x:BitVec 64) (n:Nat) (hn:n < 64) :
 Af M 461 [W x,.int .i64 n] [] 0 (Q3 (W (Qk x n)) [] 0):=by
 refine Ac ok.k461 rfl fun c hx=>?_
 have e1:(n:Int).tmod 64=n:=Ji
 refine es 30 ?_
 by_cases h0:n=0
 ·subst h0
  have d0:decide ((0:Int)=0)=true:=rfl
  have e0:(0:Int).tmod 64=0:=rfl
  simp only [Za,Afk,d0,e0,Dx,↓Ab,A5,Ad,Nat.reduceLT,Int.reduceLE,Int.reduceLT,Nat.reducePow,Nat.reduceAnd,Nat.reduceOr,Nat.reduceShiftRight,Int.reduceToNat,reduceCtorEq,Nat.reduceAdd,Nat.reduceMul,Nat.reduceSub,Nat.reduceBEq,Nat.reduceEqDiff,Nat.reduceLeDiff,Nat.reduceBneDiff,Nat.reduceBNe,↓reduceIte]
  refine ⟨by omega,?_⟩
  refine Aq.mk hx [] [] (W (Qk x 0)) [] 0 Ak ?_ ?_ trivial ⟨rfl,rfl,rfl⟩
  ·simp only [Lc,↓Ab,ex,Ro,AC,A5,Ad,Nat.reduceLT,Int.reduceLE,Int.reduceLT,Nat.reducePow,Nat.reduceAnd,Nat.reduceOr,Nat.reduceShiftRight,Int.reduceToNat,reduceCtorEq,Nat.reduceAdd,Nat.reduceMul,Nat.reduceSub,Nat.reduceBEq,Nat.reduceEqDiff]
  ·rw [Adr];simp only [Lb,↓Ab,ex,Ro,AC,A5,Ad,Nat.reduceLT,Int.reduceLE,Int.reduceLT,Nat.reducePow,Nat.reduceAnd,Nat.reduceOr,Nat.reduceShiftRight,Int.reduceToNat,reduceCtorEq,Nat.reduceAdd,Nat.reduceMul,Nat.reduceSub,Nat.reduceBEq,Nat.reduceEqDiff,Nat.reduceLeDiff]
 ·have d0:decide ((n:Int)=0)=false:=decide_eq_false Aa
  have w1:IntKind.u64.wrap ((n:Nat):Int)=(n:Nat):=Cy Aa
  have w2:IntKind.i64.wrap (64 - (n:Int))=((64 - n:Nat):Int):=A9
  have w3:IntKind.u64.wrap ((64 - n:Nat):Int)=((64 - n:Nat):Int):=Cy Aa
  simp only [Za,Afk,d0,e1,w1,w2,w3,Wz,Dx,↓Ab,A5,Ad,Nat.reduceLT,Int.reduceLE,Int.reduceLT,Nat.reducePow,Nat.reduceAnd,Nat.reduceOr,Nat.reduceShiftRight,Int.reduceToNat,reduceCtorEq,Nat.reduceAdd,Nat.reduceMul,Nat.reduceSub,Nat.reduceBEq,Nat.reduceEqDiff,Nat.reduceLeDiff,Nat.reduceBneDiff,Nat.reduceBNe,↓reduceIte]
  refine ⟨by omega,by omega,by omega,?_⟩
  refine Aq.mk hx [] [] (W (Qk x n)) [] 0 Ak ?_ ?_ trivial ⟨rfl,rfl,rfl⟩
  ·simp only [Lc,↓Ab,ex,Ro,AC,A5,Ad,Nat.reduceLT,Int.reduceLE,Int.reduceLT,Nat.reducePow,Nat.reduceAnd,Nat.reduceOr,Nat.reduceShiftRight,Int.reduceToNat,reduceCtorEq,Nat.reduceAdd,Nat.reduceMul,Nat.reduceSub,Nat.reduceBEq,Nat.reduceEqDiff]
  ·simp only [Lb,↓Ab,ex,Ro,AC,A5,Ad,Nat.reduceLT,Int.reduceLE,Int.reduceLT,Nat.reducePow,Nat.reduceAnd,Nat.reduceOr,Nat.reduceShiftRight,Int.reduceToNat,reduceCtorEq,Nat.reduceAdd,Nat.reduceMul,Nat.reduceSub,Nat.reduceBEq,Nat.reduceEqDiff,Nat.reduceLeDiff]
   rfl
def lf:Nat→Nat
 | 0=>1
 | n + 1=>if 255 < lf n * 2 then (lf n * 2) ^^^ 369 else lf n * 2
def kk (i:Nat):Nat→BitVec 64
 | 0=>0
 | j + 1=>if lf (7 * i + j) % 2=1 then kk i j ||| ((1:BitVec 64) <<< (2 ^ j - 1)) else kk i j
theorem Als:∀ n,n≤168→lf n < 256:=Ak
theorem Ac5:∀ i,i < 24→kk i 7=rc.getD i 0:=Ak
theorem Amr {a b:Nat} (ha:a < 4611686018427387904) (hb:b < 4611686018427387904):IntKind.i64.wrap (((BitVec.ofInt IntKind.i64.bits (a:Int) ^^^ BitVec.ofInt IntKind.i64.bits (b:Int)).toNat:Nat):Int)=((a ^^^ b:Nat):Int):=by
 show IntKind.i64.wrap (((BitVec.ofInt 64 (a:Int) ^^^ BitVec.ofInt 64 (b:Int)).toNat:Nat):Int)=_
 have h2:a ^^^ b < 2 ^ 63:=Nat.xor_lt_two_pow Aa Aa
 rw [BB,BB,BitVec.toNat_xor,BitVec.toNat_ofNat,BitVec.toNat_ofNat,Nat.mod_eq_of_lt Aa,Nat.mod_eq_of_lt Aa]
 rw [AI Aa]
theorem W1:V.int .u64 1=W 1:=rfl
theorem FQ (a b:BitVec 64) (H:Hp):AK .sub (W a) (W b) H=⟨True,W (a - b),H⟩:=by
 have ha:=a.isLt
 have hb:=b.isLt
 simp only [AK,W,Dw,BitVec.toNat_sub]
 congr 2
 omega
theorem FU (a b:BitVec 64) (H:Hp):AK .shl (W a) (W b) H=⟨True,W (a <<< b.toNat),H⟩:=by
 have h:=E5 a .u64 (b.toNat:Int) H
 simp only [Int.toNat_natCast] at h
 rw [show W b=V.int .u64 (b.toNat:Int) from rfl,h]
 simp
theorem Abl:∀ j,j < 7→((1:BitVec 64) <<< j - 1).toNat=2 ^ j - 1:=Ak
theorem KW {M:Seat} (ok:OkB M) :
 Af M 413 [] [] 0 (Q3 (.sl 0 [] 0 24 1) [(0,.ar 1 24 (ws rc))] 1):=by
 refine Ac ok.k413 rfl fun x hx=>?_
 refine es 30 ?_
 simp only [Ad1,Alq,Dx,↓Ab,A5,Ad,Nat.reduceLT,Int.reduceLE,Int.reduceLT,Nat.reducePow,Nat.reduceAnd,Nat.reduceOr,Nat.reduceShiftRight,Int.reduceToNat,reduceCtorEq,Nat.reduceAdd,Nat.reduceMul,Nat.reduceSub,Nat.reduceBEq,Nat.reduceEqDiff,Nat.reduceLeDiff,Nat.reduceBneDiff,Nat.reduceBNe,↓reduceIte]
 refine Ag (σ:=Nat) (fun i=>i≤24) (fun i=>fr 35 [(1,if i=0 then .nils else .sl 0 [] 0 i 1),(2,.int .i64 (lf (7 * i):Nat)),(3,.int .i64 i)])
  (fun i=>if i=0 then [] else [(0,.ar 1 i (ws rc))]) (fun _=>1) (fun i=>24 - i) 0 Aa ?_ ?_
 ·refine Aj.fr [] [] hx Ax Ak ?_ ?_
  ·simp only [A7,Nat.reduceLT,reduceCtorEq,Nat.reduceEqDiff,Nat.reduceLeDiff,Nat.reduceBEq]
   rfl
  ·trivial
 ·intro i hi
  by_cases h24:i=24
  ·subst h24
   have d0:decide (((24:Nat):Int) < 24)=false:=rfl
   have n24:¬ (24:Nat)=0:=Aa
   simp only [if_neg n24]
   (refine es 30 ?_;simp (maxSteps:=2000000) only [d0,Dx,↓Ab,A5,Ad,Nat.reduceLT,Int.reduceLE,Int.reduceLT,Nat.reducePow,Nat.reduceAnd,Nat.reduceOr,Nat.reduceShiftRight,Int.reduceToNat,reduceCtorEq,Nat.reduceAdd,Nat.reduceMul,Nat.reduceSub,Nat.reduceBEq,Nat.reduceEqDiff,Nat.reduceLeDiff,Nat.reduceBneDiff,Nat.reduceBNe,↓reduceIte])
   refine Aq.mk hx [0] [] (.sl 0 [] 0 24 1) [(0,.ar 1 24 (ws rc))] 1 Ak ?_ ?_ ?_ ⟨rfl,rfl,rfl⟩
   ·simp only [Lc,↓Ab,ex,Ro,AC,A5,Ad,Nat.reduceLT,Int.reduceLE,Int.reduceLT,Nat.reducePow,Nat.reduceAnd,Nat.reduceOr,Nat.reduceShiftRight,Int.reduceToNat,reduceCtorEq,Nat.reduceAdd,Nat.reduceMul,Nat.reduceSub,Nat.reduceBEq,Nat.reduceEqDiff]
   ·simp only [Lb,↓Ab,ex,Ro,AC,A5,Ad,Nat.reduceLT,Int.reduceLE,Int.reduceLT,Nat.reducePow,Nat.reduceAnd,Nat.reduceOr,Nat.reduceShiftRight,Int.reduceToNat,reduceCtorEq,Nat.reduceAdd,Nat.reduceMul,Nat.reduceSub,Nat.reduceBEq,Nat.reduceEqDiff,Nat.reduceLeDiff]
   ·simp only [A7,Nat.reduceLT,reduceCtorEq,Nat.reduceEqDiff,Nat.reduceLeDiff,Nat.reduceBEq]
  ·have d0:decide ((i:Int) < 24)=true:=decide_eq_true Aa
   have wi:IntKind.i64.wrap ((i:Int) + 1)=((i + 1:Nat):Int):=A9
   (refine es 30 ?_;simp (maxSteps:=2000000) only [d0,Dx,↓Ab,A5,Ad,Nat.reduceLT,Int.reduceLE,Int.reduceLT,Nat.reducePow,Nat.reduceAnd,Nat.reduceOr,Nat.reduceShiftRight,Int.reduceToNat,reduceCtorEq,Nat.reduceAdd,Nat.reduceMul,Nat.reduceSub,Nat.reduceBEq,Nat.reduceEqDiff,Nat.reduceLeDiff,Nat.reduceBneDiff,Nat.reduceBNe,↓reduceIte])
   refine Ag (σ:=Nat) (fun j=>j≤7) (fun j=>fr 35 [(1,if i=0 then .nils else .sl 0 [] 0 i 1),(2,.int .i64 (lf (7 * i + j):Nat)),(3,.int .i64 i),(4,W (kk i j)),(5,.int .i64 j)])
    (fun j=>if i=0 then [] else [(0,.ar 1 i (ws rc))]) (fun _=>1) (fun j=>7 - j) 0 Aa ?_ ?_
   ·refine Aj.fr [0] [] hx Ax Ak ?_ ?_
    ·simp only [A7,Nat.reduceLT,reduceCtorEq,Nat.reduceEqDiff,Nat.reduceLeDiff,Nat.reduceBEq,W_0,kk]
     by_cases h0:i=0
     ·simp only [if_pos h0,A7,Nat.reduceLT,reduceCtorEq,Nat.reduceEqDiff,Nat.reduceLeDiff,Nat.reduceBEq]
      trivial
     ·simp only [if_neg h0,A7,Nat.reduceLT,reduceCtorEq,Nat.reduceEqDiff,Nat.reduceLeDiff,Nat.reduceBEq]
      trivial
    ·by_cases h0:i=0
     ·simp only [if_pos h0,A7,Nat.reduceLT,reduceCtorEq,Nat.reduceEqDiff,Nat.reduceLeDiff,Nat.reduceBEq]
     ·simp only [if_neg h0,A7,Nat.reduceLT,reduceCtorEq,Nat.reduceEqDiff,Nat.reduceLeDiff,Nat.reduceBEq]
   ·intro j hj
    by_cases h7:j=7
    ·subst h7
     have d1:decide (((7:Nat):Int) < 7)=false:=rfl
     have e7:7 * i + 7=7 * (i + 1):=Aa
     by_cases h0:i=0
     ·simp only [if_pos h0]
      (refine es 30 ?_;simp (maxSteps:=2000000) only [d1,wi,Dx,↓Ab,A5,Ad,Nat.reduceLT,Int.reduceLE,Int.reduceLT,Nat.reducePow,Nat.reduceAnd,Nat.reduceOr,Nat.reduceShiftRight,Int.reduceToNat,reduceCtorEq,Nat.reduceAdd,Nat.reduceMul,Nat.reduceSub,Nat.reduceBEq,Nat.reduceEqDiff,Nat.reduceLeDiff,Nat.reduceBneDiff,Nat.reduceBNe,↓reduceIte])
      subst h0
      refine ⟨1,by omega,by omega,?_⟩
      refine Aj.fr [81] [] hx Ax Ak ?_ ?_
      ·simp only [if_neg (Nat.add_one_ne_zero 0),A7,Nat.reduceLT,reduceCtorEq,Nat.reduceEqDiff,Nat.reduceLeDiff,Nat.reduceBEq]
      ·simp only [if_neg (Nat.add_one_ne_zero 0),A7,Nat.reduceLT,reduceCtorEq,Nat.reduceEqDiff,Nat.reduceLeDiff,Nat.reduceBEq]
       intro q hq
       have:q=0:=Aa
       subst this
       simp only [if_true,Ac5 0 Aa,Ds]
     ·simp only [if_neg h0]
      (refine es 30 ?_;simp (maxSteps:=2000000) only [d1,wi,Dx,↓Ab,A5,Ad,Nat.reduceLT,Int.reduceLE,Int.reduceLT,Nat.reducePow,Nat.reduceAnd,Nat.reduceOr,Nat.reduceShiftRight,Int.reduceToNat,reduceCtorEq,Nat.reduceAdd,Nat.reduceMul,Nat.reduceSub,Nat.reduceBEq,Nat.reduceEqDiff,Nat.reduceLeDiff,Nat.reduceBneDiff,Nat.reduceBNe,↓reduceIte])
      refine ⟨by omega,i + 1,by omega,by omega,?_⟩
      refine Aj.fr [81] [] hx Ax Ak ?_ ?_
      ·simp only [if_neg (Nat.add_one_ne_zero i),e7,A7,Nat.reduceLT,reduceCtorEq,Nat.reduceEqDiff,Nat.reduceLeDiff,Nat.reduceBEq]
      ·simp only [if_neg (Nat.add_one_ne_zero i),A7,Nat.reduceLT,reduceCtorEq,Nat.reduceEqDiff,Nat.reduceLeDiff,Nat.reduceBEq]
       intro q hq
       by_cases h1:q < i
       ·rw [if_pos h1];exact (Ds _ _ _ _ _).mpr rfl
       ·have:q=i:=Aa
        subst this
        rw [if_neg h1,if_pos Aa,Ac5 q Aa];exact (Ds _ _ _ _ _).mpr rfl
    ·have d1:decide ((j:Int) < 7)=true:=decide_eq_true Aa
     have wj:IntKind.i64.wrap ((j:Int) + 1)=((j + 1:Nat):Int):=A9
     have hl:=Als (7 * i + j) Aa
     have w2:IntKind.i64.wrap (((lf (7 * i + j):Nat):Int) * 2)=((lf (7 * i + j) * 2:Nat):Int):=A9
     have wx:IntKind.i64.wrap (((BitVec.ofInt IntKind.i64.bits ((lf (7 * i + j) * 2:Nat):Int) ^^^ BitVec.ofInt IntKind.i64.bits 369).toNat:Nat):Int)=(((lf (7 * i + j) * 2) ^^^ 369:Nat):Int):=Amr (b:=369) Aa Ak
     have wu:IntKind.u64.wrap ((j:Nat):Int)=(j:Nat):=Cy Aa
     have hs:=Abl j Aa
     have hm:((lf (7 * i + j):Nat):Int).tmod 2=((lf (7 * i + j) % 2:Nat):Int):=Ji
     by_cases hb:lf (7 * i + j) % 2=1
     ·have d2:decide (((lf (7 * i + j) % 2:Nat):Int)=1)=true:=decide_eq_true Aa
      have hk:kk i (j + 1)=kk i j ||| ((1:BitVec 64) <<< (2 ^ j - 1)):=by rw [kk,if_pos hb]
      by_cases hc:255 < lf (7 * i + j) * 2
      ·have d3:decide ((255:Int) < ((lf (7 * i + j) * 2:Nat):Int))=true:=decide_eq_true Aa
       have hn:lf (7 * i + (j + 1))=(lf (7 * i + j) * 2) ^^^ 369:=by show lf (7 * i + j + 1)=_;rw [lf,if_pos hc]
       (refine es 30 ?_;simp (maxSteps:=2000000) only [W1,FQ,FU,hs,hm,d1,d2,d3,w2,wx,wu,wj,Dx,↓Ab,A5,Ad,Nat.reduceLT,Int.reduceLE,Int.reduceLT,Nat.reducePow,Nat.reduceAnd,Nat.reduceOr,Nat.reduceShiftRight,Int.reduceToNat,reduceCtorEq,Nat.reduceAdd,Nat.reduceMul,Nat.reduceSub,Nat.reduceBEq,Nat.reduceEqDiff,Nat.reduceLeDiff,Nat.reduceBneDiff,Nat.reduceBNe,↓reduceIte])
       refine ⟨by omega,by omega,j + 1,by omega,by omega,?_⟩
       rw [hk,hn]
       refine Aj.fr [0] [] hx Ax Ak ?_ ?_
       ·simp only [A7,Nat.reduceLT,reduceCtorEq,Nat.reduceEqDiff,Nat.reduceLeDiff,Nat.reduceBEq]
        by_cases h0:i=0
        ·simp only [if_pos h0,A7,Nat.reduceLT,reduceCtorEq,Nat.reduceEqDiff,Nat.reduceLeDiff,Nat.reduceBEq]
        ·simp only [if_neg h0,A7,Nat.reduceLT,reduceCtorEq,Nat.reduceEqDiff,Nat.reduceLeDiff,Nat.reduceBEq]
       ·by_cases h0:i=0
        ·simp only [if_pos h0,A7,Nat.reduceLT,reduceCtorEq,Nat.reduceEqDiff,Nat.reduceLeDiff,Nat.reduceBEq]
        ·simp only [if_neg h0,A7,Nat.reduceLT,reduceCtorEq,Nat.reduceEqDiff,Nat.reduceLeDiff,Nat.reduceBEq]
      ·have d3:decide ((255:Int) < ((lf (7 * i + j) * 2:Nat):Int))=false:=decide_eq_false Aa
       have hn:lf (7 * i + (j + 1))=lf (7 * i + j) * 2:=by show lf (7 * i + j + 1)=_;rw [lf,if_neg hc]
       (refine es 30 ?_;simp (maxSteps:=2000000) only [W1,FQ,FU,hs,hm,d1,d2,d3,w2,wx,wu,wj,Dx,↓Ab,A5,Ad,Nat.reduceLT,Int.reduceLE,Int.reduceLT,Nat.reducePow,Nat.reduceAnd,Nat.reduceOr,Nat.reduceShiftRight,Int.reduceToNat,reduceCtorEq,Nat.reduceAdd,Nat.reduceMul,Nat.reduceSub,Nat.reduceBEq,Nat.reduceEqDiff,Nat.reduceLeDiff,Nat.reduceBneDiff,Nat.reduceBNe,↓reduceIte])
       refine ⟨by omega,by omega,j + 1,by omega,by omega,?_⟩
       rw [hk,hn]
       refine Aj.fr [0] [] hx Ax Ak ?_ ?_
       ·simp only [A7,Nat.reduceLT,reduceCtorEq,Nat.reduceEqDiff,Nat.reduceLeDiff,Nat.reduceBEq]
        by_cases h0:i=0
        ·simp only [if_pos h0,A7,Nat.reduceLT,reduceCtorEq,Nat.reduceEqDiff,Nat.reduceLeDiff,Nat.reduceBEq]
        ·simp only [if_neg h0,A7,Nat.reduceLT,reduceCtorEq,Nat.reduceEqDiff,Nat.reduceLeDiff,Nat.reduceBEq]
       ·by_cases h0:i=0
        ·simp only [if_pos h0,A7,Nat.reduceLT,reduceCtorEq,Nat.reduceEqDiff,Nat.reduceLeDiff,Nat.reduceBEq]
        ·simp only [if_neg h0,A7,Nat.reduceLT,reduceCtorEq,Nat.reduceEqDiff,Nat.reduceLeDiff,Nat.reduceBEq]
     ·have d2:decide (((lf (7 * i + j) % 2:Nat):Int)=1)=false:=decide_eq_false Aa
      have hk:kk i (j + 1)=kk i j:=by rw [kk,if_neg hb]
      by_cases hc:255 < lf (7 * i + j) * 2
      ·have d3:decide ((255:Int) < ((lf (7 * i + j) * 2:Nat):Int))=true:=decide_eq_true Aa
       have hn:lf (7 * i + (j + 1))=(lf (7 * i + j) * 2) ^^^ 369:=by show lf (7 * i + j + 1)=_;rw [lf,if_pos hc]
       (refine es 30 ?_;simp (maxSteps:=2000000) only [W1,FQ,FU,hs,hm,d1,d2,d3,w2,wx,wu,wj,Dx,↓Ab,A5,Ad,Nat.reduceLT,Int.reduceLE,Int.reduceLT,Nat.reducePow,Nat.reduceAnd,Nat.reduceOr,Nat.reduceShiftRight,Int.reduceToNat,reduceCtorEq,Nat.reduceAdd,Nat.reduceMul,Nat.reduceSub,Nat.reduceBEq,Nat.reduceEqDiff,Nat.reduceLeDiff,Nat.reduceBneDiff,Nat.reduceBNe,↓reduceIte])
       refine ⟨by omega,j + 1,by omega,by omega,?_⟩
       rw [hk,hn]
       refine Aj.fr [0] [] hx Ax Ak ?_ ?_
       ·simp only [A7,Nat.reduceLT,reduceCtorEq,Nat.reduceEqDiff,Nat.reduceLeDiff,Nat.reduceBEq]
        by_cases h0:i=0
        ·simp only [if_pos h0,A7,Nat.reduceLT,reduceCtorEq,Nat.reduceEqDiff,Nat.reduceLeDiff,Nat.reduceBEq]
        ·simp only [if_neg h0,A7,Nat.reduceLT,reduceCtorEq,Nat.reduceEqDiff,Nat.reduceLeDiff,Nat.reduceBEq]
       ·by_cases h0:i=0
        ·simp only [if_pos h0,A7,Nat.reduceLT,reduceCtorEq,Nat.reduceEqDiff,Nat.reduceLeDiff,Nat.reduceBEq]
        ·simp only [if_neg h0,A7,Nat.reduceLT,reduceCtorEq,Nat.reduceEqDiff,Nat.reduceLeDiff,Nat.reduceBEq]
      ·have d3:decide ((255:Int) < ((lf (7 * i + j) * 2:Nat):Int))=false:=decide_eq_false Aa
       have hn:lf (7 * i + (j + 1))=lf (7 * i + j) * 2:=by show lf (7 * i + j + 1)=_;rw [lf,if_neg hc]
       (refine es 30 ?_;simp (maxSteps:=2000000) only [W1,FQ,FU,hs,hm,d1,d2,d3,w2,wx,wu,wj,Dx,↓Ab,A5,Ad,Nat.reduceLT,Int.reduceLE,Int.reduceLT,Nat.reducePow,Nat.reduceAnd,Nat.reduceOr,Nat.reduceShiftRight,Int.reduceToNat,reduceCtorEq,Nat.reduceAdd,Nat.reduceMul,Nat.reduceSub,Nat.reduceBEq,Nat.reduceEqDiff,Nat.reduceLeDiff,Nat.reduceBneDiff,Nat.reduceBNe,↓reduceIte])
       refine ⟨by omega,j + 1,by omega,by omega,?_⟩
       rw [hk,hn]
       refine Aj.fr [0] [] hx Ax Ak ?_ ?_
       ·simp only [A7,Nat.reduceLT,reduceCtorEq,Nat.reduceEqDiff,Nat.reduceLeDiff,Nat.reduceBEq]
        by_cases h0:i=0
        ·simp only [if_pos h0,A7,Nat.reduceLT,reduceCtorEq,Nat.reduceEqDiff,Nat.reduceLeDiff,Nat.reduceBEq]
        ·simp only [if_neg h0,A7,Nat.reduceLT,reduceCtorEq,Nat.reduceEqDiff,Nat.reduceLeDiff,Nat.reduceBEq]
       ·by_cases h0:i=0
        ·simp only [if_pos h0,A7,Nat.reduceLT,reduceCtorEq,Nat.reduceEqDiff,Nat.reduceLeDiff,Nat.reduceBEq]
        ·simp only [if_neg h0,A7,Nat.reduceLT,reduceCtorEq,Nat.reduceEqDiff,Nat.reduceLeDiff,Nat.reduceBEq]
def I3:Nat→Nat × Nat
 | 0=>(1,0)
 | t + 1=>((I3 t).2,(2 * (I3 t).1 + 3 * (I3 t).2) % 5)
def tv:Nat→Nat→Nat
 | 0,_=>0
 | q + 1,j=>if j=(I3 q).1 + 5 * (I3 q).2 then ((q + 1) * (q + 2) / 2) % 64 else tv q j
theorem Afm:∀ t,t≤24→(I3 t).1 < 5∧(I3 t).2 < 5:=Ak
theorem R5 {M:Seat} (ok:OkB M) :
 Af M 414 [] [] 0 (Q3 (.sl 0 [] 0 25 1) [(0,.ar 1 25 (fun j=>.int .i64 (tv 24 j:Nat)))] 1):=by
 refine Ac ok.k414 rfl fun x hx=>?_
 refine es 30 ?_
 simp only [Agm,Al6,Dx,↓Ab,A5,Ad,seval]
 repeat refine sd ?_
 refine Ag (σ:=Nat) (fun t=>t≤24) (fun t=>fr 33 [(1,.sl 0 [] 0 25 1),(2,.int .i64 ((I3 t).1:Nat)),(3,.int .i64 ((I3 t).2:Nat)),(4,.int .i64 t)])
  (fun t=>[(0,.ar 1 25 (fun j=>.int .i64 (tv t j:Nat)))]) (fun _=>1) (fun t=>24 - t) 0 Aa ?_ ?_
 ·refine Aj.fr [16] [] hx Ax Ak ?_ ?_
  ·simp only [A7,seval]
   exact ⟨rfl,rfl⟩
  ·simp only [A7,seval]
   exact fun _ _=>rfl
 ·intro t ht
  by_cases h24:t=24
  ·subst h24
   have d0:decide (((24:Nat):Int) < 24)=false:=rfl
   (refine es 30 ?_;simp (maxSteps:=2000000) only [d0,Dx,↓Ab,A5,Ad,seval])
   refine Aq.mk hx [0] [] (.sl 0 [] 0 25 1) [(0,.ar 1 25 (fun j=>.int .i64 (tv 24 j:Nat)))] 1 Ak ?_ ?_ ?_ ⟨rfl,rfl,rfl⟩
   ·simp only [Lc,↓Ab,ex,Ro,AC,A5,Ad,seval]
   ·simp only [Lb,↓Ab,ex,Ro,AC,A5,Ad,seval]
   ·simp only [A7,seval]
  ·have d0:decide ((t:Int) < 24)=true:=decide_eq_true Aa
   obtain ⟨hx5,hy5⟩:=Afm t ht
   have w1:IntKind.i64.wrap ((t:Int) + 1)=((t + 1:Nat):Int):=A9
   have w2:IntKind.i64.wrap ((t:Int) + 2)=((t + 2:Nat):Int):=A9
   have w3:IntKind.i64.wrap (5 * (((I3 t).2:Nat):Int))=((5 * (I3 t).2:Nat):Int):=A9
   have w4:IntKind.i64.wrap ((((I3 t).1:Nat):Int) + ((5 * (I3 t).2:Nat):Int))=(((I3 t).1 + 5 * (I3 t).2:Nat):Int):=A9
   have hm:(t + 1) * (t + 2)≤25 * 26:=Nat.mul_le_mul Aa Aa
   have w5:IntKind.i64.wrap (((t + 1:Nat):Int) * ((t + 2:Nat):Int))=(((t + 1) * (t + 2):Nat):Int):=by rw [← Int.natCast_mul,AI Aa]
   have w6:IntKind.i64.wrap ((((t + 1) * (t + 2):Nat):Int).tdiv 2)=(((t + 1) * (t + 2) / 2:Nat):Int):=V5 Aa
   have w7:((((t + 1) * (t + 2) / 2:Nat):Int)).tmod 64=(((t + 1) * (t + 2) / 2 % 64:Nat):Int):=Ji
   have w8:IntKind.i64.wrap (2 * (((I3 t).1:Nat):Int))=((2 * (I3 t).1:Nat):Int):=A9
   have w9:IntKind.i64.wrap (3 * (((I3 t).2:Nat):Int))=((3 * (I3 t).2:Nat):Int):=A9
   have wa:IntKind.i64.wrap (((2 * (I3 t).1:Nat):Int) + ((3 * (I3 t).2:Nat):Int))=((2 * (I3 t).1 + 3 * (I3 t).2:Nat):Int):=A9
   have wb:(((2 * (I3 t).1 + 3 * (I3 t).2:Nat):Int)).tmod 5=(((2 * (I3 t).1 + 3 * (I3 t).2) % 5:Nat):Int):=Ji
   (refine es 30 ?_;simp (maxSteps:=2000000) only [d0,w1,w2,w3,w4,w5,w6,w7,w8,w9,wa,wb,Dx,↓Ab,A5,Ad,seval])
   repeat refine sd ?_
   refine ⟨t + 1,by omega,by omega,?_⟩
   refine Aj.fr [0] [] hx Ax Ak ?_ ?_
   ·simp only [A7,seval]
    exact ⟨rfl,rfl⟩
   ·simp only [A7,seval]
    intro j hj
    rw [tv]
    split <;> rfl
end Mv
