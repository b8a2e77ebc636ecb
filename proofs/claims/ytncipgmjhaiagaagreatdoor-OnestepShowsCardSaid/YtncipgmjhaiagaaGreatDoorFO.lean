/- A part. -/
import Derived.Test.YtncipgmjhaiagaaGreatDoorEU
import Derived.Test.YtncipgmjhaiagaaGreatDoorFN
set_option linter.all false
set_option maxRecDepth 20000
set_option maxHeartbeats 4000000
namespace Mv
open Go
theorem Wz (a b:BitVec 64) (H:Hp):AK .or (W a) (W b) H=⟨True,W (a ||| b),H⟩:=GW a b H
theorem Mf {M:Seat} (ok:OkB M) (x:BitVec 64) (n:Nat) (hn:n < 64) :
 Af M 461 [W x,.int .i64 n] [] 0 (Q3 (W (Qk x n)) [] 0):=by
 refine Ac ok.k461 rfl fun c hx=>?_
 have e1:(n:Int).tmod 64=n:=Ji
 refine es 30 ?_
 by_cases h0:n=0
 ·subst h0
  have d0:decide ((0:Int)=0)=true:=rfl
  have e0:(0:Int).tmod 64=0:=rfl
  simp only [Za,Afk,d0,e0,Dx,↓Ab,A5,Ad,Nat.reduceLT,Int.reduceLE,Int.reduceLT,Nat.reducePow,Nat.reduceAnd,Nat.reduceOr,Nat.reduceShiftRight,Int.reduceToNat,reduceCtorEq,Nat.reduceAdd,Nat.reduceMul,Nat.reduceSub,Nat.reduceBEq,Nat.reduceEqDiff,Nat.reduceLeDiff,Nat.reduceBneDiff,Nat.reduceBNe,↓reduceIte]
  refine ⟨by omega,?_⟩
  refine Aq.mk hx [] [] (W (Qk x 0)) [] 0 Ak ?_ ?_ trivial ⟨rfl,rfl,rfl⟩
  ·simp only [Lc,↓Ab,ex,Ro,AC,A5,Ad,Nat.reduceLT,Int.reduceLE,Int.reduceLT,Nat.reducePow,Nat.reduceAnd,Nat.reduceOr,Nat.reduceShiftRight,Int.reduceToNat,reduceCtorEq,Nat.reduceAdd,Nat.reduceMul,Nat.reduceSub,Nat.reduceBEq,Nat.reduceEqDiff]
  ·rw [Adr];simp only [Lb,↓Ab,ex,Ro,AC,A5,Ad,Nat.reduceLT,Int.reduceLE,Int.reduceLT,Nat.reducePow,Nat.reduceAnd,Nat.reduceOr,Nat.reduceShiftRight,Int.reduceToNat,reduceCtorEq,Nat.reduceAdd,Nat.reduceMul,Nat.reduceSub,Nat.reduceBEq,Nat.reduceEqDiff,Nat.reduceLeDiff]
 ·have d0:decide ((n:Int)=0)=false:=decide_eq_false Aa
  have w1:IntKind.u64.wrap ((n:Nat):Int)=(n:Nat):=Cy Aa
  have w2:IntKind.i64.wrap (64 - (n:Int))=((64 - n:Nat):Int):=A9
  have w3:IntKind.u64.wrap ((64 - n:Nat):Int)=((64 - n:Nat):Int):=Cy Aa
  simp only [Za,Afk,d0,e1,w1,w2,w3,Wz,Dx,↓Ab,A5,Ad,Nat.reduceLT,Int.reduceLE,Int.reduceLT,Nat.reducePow,Nat.reduceAnd,Nat.reduceOr,Nat.reduceShiftRight,Int.reduceToNat,reduceCtorEq,Nat.reduceAdd,Nat.reduceMul,Nat.reduceSub,Nat.reduceBEq,Nat.reduceEqDiff,Nat.reduceLeDiff,Nat.reduceBneDiff,Nat.reduceBNe,↓reduceIte]
  refine ⟨by omega,by omega,by omega,?_⟩
  refine Aq.mk hx [] [] (W (Qk x n)) [] 0 Ak ?_ ?_ trivial ⟨rfl,rfl,rfl⟩
  ·simp only [Lc,↓Ab,ex,Ro,AC,A5,Ad,Nat.reduceLT,Int.reduceLE,Int.reduceLT,Nat.reducePow,Nat.reduceAnd,Nat.reduceOr,Nat.reduceShiftRight,Int.reduceToNat,reduceCtorEq,Nat.reduceAdd,Nat.reduceMul,Nat.reduceSub,Nat.reduceBEq,Nat.reduceEqDiff]
  ·simp only [Lb,↓Ab,ex,Ro,AC,A5,Ad,Nat.reduceLT,Int.reduceLE,Int.reduceLT,Nat.reducePow,Nat.reduceAnd,Nat.reduceOr,Nat.reduceShiftRight,Int.reduceToNat,reduceCtorEq,Nat.reduceAdd,Nat.reduceMul,Nat.reduceSub,Nat.reduceBEq,Nat.reduceEqDiff,Nat.reduceLeDiff]
   rfl
def lf:Nat→Nat
 | 0=>1
 | n + 1=>if 255 < lf n * 2 then (lf n * 2) ^^^ 369 else lf n * 2
def kk (i:Nat):Nat→BitVec 64
 | 0=>0
 | j + 1=>if lf (7 * i + j) % 2=1 then kk i j ||| ((1:BitVec 64) <<< (2 ^ j - 1)) else kk i j
theorem Als:∀ n,n≤168→lf n < 256:=Ak
theorem Ac5:∀ i,i < 24→kk i 7=rc.getD i 0:=Ak
theorem Amr {a b:Nat} (ha:a < 4611686018427387904) (hb:b < 4611686018427387904):IntKind.i64.wrap (((BitVec.ofInt IntKind.i64.bits (a:Int) ^^^ BitVec.ofInt IntKind.i64.bits (b:Int)).toNat:Nat):Int)=((a ^^^ b:Nat):Int):=by
 show IntKind.i64.wrap (((BitVec.ofInt 64 (a:Int) ^^^ BitVec.ofInt 64 (b:Int)).toNat:Nat):Int)=_
 have h2:a ^^^ b < 2 ^ 63:=Nat.xor_lt_two_pow Aa Aa
 rw [BB,BB,BitVec.toNat_xor,BitVec.toNat_ofNat,BitVec.toNat_ofNat,Nat.mod_eq_of_lt Aa,Nat.mod_eq_of_lt Aa]
 rw [AI Aa]
theorem W1:V.int .u64 1=W 1:=rfl
theorem FQ (a b:BitVec 64) (H:Hp):AK .sub (W a) (W b) H=⟨True,W (a - b),H⟩:=by
 have ha:=a.isLt
 have hb:=b.isLt
 simp only [AK,W,Dw,BitVec.toNat_sub]
 congr 2
 omega
theorem FU (a b:BitVec 64) (H:Hp):AK .shl (W a) (W b) H=⟨True,W (a <<< b.toNat),H⟩:=by
 have h:=E5 a .u64 (b.toNat:Int) H
 simp only [Int.toNat_natCast] at h
 rw [show W b=V.int .u64 (b.toNat:Int) from rfl,h]
 simp
theorem Abl:∀ j,j < 7→((1:BitVec 64) <<< j - 1).toNat=2 ^ j - 1:=Ak
theorem KW {M:Seat} (ok:OkB M) :
 Af M 413 [] [] 0 (Q3 (.sl 0 [] 0 24 1) [(0,.ar 1 24 (ws rc))] 1):=by
 refine Ac ok.k413 rfl fun x hx=>?_
 refine es 30 ?_
 simp only [Ad1,Alq,Dx,↓Ab,A5,Ad,Nat.reduceLT,Int.reduceLE,Int.reduceLT,Nat.reducePow,Nat.reduceAnd,Nat.reduceOr,Nat.reduceShiftRight,Int.reduceToNat,reduceCtorEq,Nat.reduceAdd,Nat.reduceMul,Nat.reduceSub,Nat.reduceBEq,Nat.reduceEqDiff,Nat.reduceLeDiff,Nat.reduceBneDiff,Nat.reduceBNe,↓reduceIte]
 refine Ag (σ:=Nat) (fun i=>i≤24) (fun i=>fr 35 [(1,if i=0 then .nils else .sl 0 [] 0 i 1),(2,.int .i64 (lf (7 * i):Nat)),(3,.int .i64 i)])
  (fun i=>if i=0 then [] else [(0,.ar 1 i (ws rc))]) (fun _=>1) (fun i=>24 - i) 0 Aa ?_ ?_
 ·refine Aj.fr [] [] hx Ax Ak ?_ ?_
  ·simp only [A7,Nat.reduceLT,reduceCtorEq,Nat.reduceEqDiff,Nat.reduceLeDiff,Nat.reduceBEq]
   rfl
  ·trivial
 ·intro i hi
  by_cases h24:i=24
  ·subst h24
   have d0:decide (((24:Nat):Int) < 24)=false:=rfl
   have n24:¬ (24:Nat)=0:=Aa
   simp only [if_neg n24]
   (refine es 30 ?_;simp (maxSteps:=2000000) only [d0,Dx,↓Ab,A5,Ad,Nat.reduceLT,Int.reduceLE,Int.reduceLT,Nat.reducePow,Nat.reduceAnd,Nat.reduceOr,Nat.reduceShiftRight,Int.reduceToNat,reduceCtorEq,Nat.reduceAdd,Nat.reduceMul,Nat.reduceSub,Nat.reduceBEq,Nat.reduceEqDiff,Nat.reduceLeDiff,Nat.reduceBneDiff,Nat.reduceBNe,↓reduceIte])
   refine Aq.mk hx [0] [] (.sl 0 [] 0 24 1) [(0,.ar 1 24 (ws rc))] 1 Ak ?_ ?_ ?_ ⟨rfl,rfl,rfl⟩
   ·simp only [Lc,↓Ab,ex,Ro,AC,A5,Ad,Nat.reduceLT,Int.reduceLE,Int.reduceLT,Nat.reducePow,Nat.reduceAnd,Nat.reduceOr,Nat.reduceShiftRight,Int.reduceToNat,reduceCtorEq,Nat.reduceAdd,Nat.reduceMul,Nat.reduceSub,Nat.reduceBEq,Nat.reduceEqDiff]
   ·simp only [Lb,↓Ab,ex,Ro,AC,A5,Ad,Nat.reduceLT,Int.reduceLE,Int.reduceLT,Nat.reducePow,Nat.reduceAnd,Nat.reduceOr,Nat.reduceShiftRight,Int.reduceToNat,reduceCtorEq,Nat.reduceAdd,Nat.reduceMul,Nat.reduceSub,Nat.reduceBEq,Nat.reduceEqDiff,Nat.reduceLeDiff]
   ·simp only [A7,Nat.reduceLT,reduceCtorEq,Nat.reduceEqDiff,Nat.reduceLeDiff,Nat.reduceBEq]
  ·have d0:decide ((i:Int) < 24)=true:=decide_eq_true Aa
   have wi:IntKind.i64.wrap ((i:Int) + 1)=((i + 1:Nat):Int):=A9
   (refine es 30 ?_;simp (maxSteps:=2000000) only [d0,Dx,↓Ab,A5,Ad,Nat.reduceLT,Int.reduceLE,Int.reduceLT,Nat.reducePow,Nat.reduceAnd,Nat.reduceOr,Nat.reduceShiftRight,Int.reduceToNat,reduceCtorEq,Nat.reduceAdd,Nat.reduceMul,Nat.reduceSub,Nat.reduceBEq,Nat.reduceEqDiff,Nat.reduceLeDiff,Nat.reduceBneDiff,Nat.reduceBNe,↓reduceIte])
   refine Ag (σ:=Nat) (fun j=>j≤7) (fun j=>fr 35 [(1,if i=0 then .nils else .sl 0 [] 0 i 1),(2,.int .i64 (lf (7 * i + j):Nat)),(3,.int .i64 i),(4,W (kk i j)),(5,.int .i64 j)])
    (fun j=>if i=0 then [] else [(0,.ar 1 i (ws rc))]) (fun _=>1) (fun j=>7 - j) 0 Aa ?_ ?_
   ·refine Aj.fr [0] [] hx Ax Ak ?_ ?_
    ·simp only [A7,Nat.reduceLT,reduceCtorEq,Nat.reduceEqDiff,Nat.reduceLeDiff,Nat.reduceBEq,W_0,kk]
     by_cases h0:i=0
     ·simp only [if_pos h0,A7,Nat.reduceLT,reduceCtorEq,Nat.reduceEqDiff,Nat.reduceLeDiff,Nat.reduceBEq]
      trivial
     ·simp only [if_neg h0,A7,Nat.reduceLT,reduceCtorEq,Nat.reduceEqDiff,Nat.reduceLeDiff,Nat.reduceBEq]
      trivial
    ·by_cases h0:i=0
     ·simp only [if_pos h0,A7,Nat.reduceLT,reduceCtorEq,Nat.reduceEqDiff,Nat.reduceLeDiff,Nat.reduceBEq]
     ·simp only [if_neg h0,A7,Nat.reduceLT,reduceCtorEq,Nat.reduceEqDiff,Nat.reduceLeDiff,Nat.reduceBEq]
   ·intro j hj
    by_cases h7:j=7
    ·subst h7
     have d1:decide (((7:Nat):Int) < 7)=false:=rfl
     have e7:7 * i + 7=7 * (i + 1):=Aa
     by_cases h0:i=0
     ·simp only [if_pos h0]
      (refine es 30 ?_;simp (maxSteps:=2000000) only [d1,wi,Dx,↓Ab,A5,Ad,Nat.reduceLT,Int.reduceLE,Int.reduceLT,Nat.reducePow,Nat.reduceAnd,Nat.reduceOr,Nat.reduceShiftRight,Int.reduceToNat,reduceCtorEq,Nat.reduceAdd,Nat.reduceMul,Nat.reduceSub,Nat.reduceBEq,Nat.reduceEqDiff,Nat.reduceLeDiff,Nat.reduceBneDiff,Nat.reduceBNe,↓reduceIte])
      subst h0
      refine ⟨1,by omega,by omega,?_⟩
      refine Aj.fr [81] [] hx Ax Ak ?_ ?_
      ·simp only [if_neg (Nat.add_one_ne_zero 0),A7,Nat.reduceLT,reduceCtorEq,Nat.reduceEqDiff,Nat.reduceLeDiff,Nat.reduceBEq]
      ·simp only [if_neg (Nat.add_one_ne_zero 0),A7,Nat.reduceLT,reduceCtorEq,Nat.reduceEqDiff,Nat.reduceLeDiff,Nat.reduceBEq]
       intro q hq
       have:q=0:=Aa
       subst this
       simp only [if_true,Ac5 0 Aa,Ds]
     ·simp only [if_neg h0]
      (refine es 30 ?_;simp (maxSteps:=2000000) only [d1,wi,Dx,↓Ab,A5,Ad,Nat.reduceLT,Int.reduceLE,Int.reduceLT,Nat.reducePow,Nat.reduceAnd,Nat.reduceOr,Nat.reduceShiftRight,Int.reduceToNat,reduceCtorEq,Nat.reduceAdd,Nat.reduceMul,Nat.reduceSub,Nat.reduceBEq,Nat.reduceEqDiff,Nat.reduceLeDiff,Nat.reduceBneDiff,Nat.reduceBNe,↓reduceIte])
      refine ⟨by omega,i + 1,by omega,by omega,?_⟩
      refine Aj.fr [81] [] hx Ax Ak ?_ ?_
      ·simp only [if_neg (Nat.add_one_ne_zero i),e7,A7,Nat.reduceLT,reduceCtorEq,Nat.reduceEqDiff,Nat.reduceLeDiff,Nat.reduceBEq]
      ·simp only [if_neg (Nat.add_one_ne_zero i),A7,Nat.reduceLT,reduceCtorEq,Nat.reduceEqDiff,Nat.reduceLeDiff,Nat.reduceBEq]
       intro q hq
       by_cases h1:q < i
       ·rw [if_pos h1];exact (Ds _ _ _ _ _).mpr rfl
       ·have:q=i:=Aa
        subst this
        rw [if_neg h1,if_pos Aa,Ac5 q Aa];exact (Ds _ _ _ _ _).mpr rfl
    ·have d1:decide ((j:Int) < 7)=true:=decide_eq_true Aa
     have wj:IntKind.i64.wrap ((j:Int) + 1)=((j + 1:Nat):Int):=A9
     have hl:=Als (7 * i + j) Aa
     have w2:IntKind.i64.wrap (((lf (7 * i + j):Nat):Int) * 2)=((lf (7 * i + j) * 2:Nat):Int):=A9
     have wx:IntKind.i64.wrap (((BitVec.ofInt IntKind.i64.bits ((lf (7 * i + j) * 2:Nat):Int) ^^^ BitVec.ofInt IntKind.i64.bits 369).toNat:Nat):Int)=(((lf (7 * i + j) * 2) ^^^ 369:Nat):Int):=Amr (b:=369) Aa Ak
     have wu:IntKind.u64.wrap ((j:Nat):Int)=(j:Nat):=Cy Aa
     have hs:=Abl j Aa
     have hm:((lf (7 * i + j):Nat):Int).tmod 2=((lf (7 * i + j) % 2:Nat):Int):=Ji
     by_cases hb:lf (7 * i + j) % 2=1
     ·have d2:decide (((lf (7 * i + j) % 2:Nat):Int)=1)=true:=decide_eq_true Aa
      have hk:kk i (j + 1)=kk i j ||| ((1:BitVec 64) <<< (2 ^ j - 1)):=by rw [kk,if_pos hb]
      by_cases hc:255 < lf (7 * i + j) * 2
      ·have d3:decide ((255:Int) < ((lf (7 * i + j) * 2:Nat):Int))=true:=decide_eq_true Aa
       have hn:lf (7 * i + (j + 1))=(lf (7 * i + j) * 2) ^^^ 369:=by show lf (7 * i + j + 1)=_;rw [lf,if_pos hc]
       (refine es 30 ?_;simp (maxSteps:=2000000) only [W1,FQ,FU,hs,hm,d1,d2,d3,w2,wx,wu,wj,Dx,↓Ab,A5,Ad,Nat.reduceLT,Int.reduceLE,Int.reduceLT,Nat.reducePow,Nat.reduceAnd,Nat.reduceOr,Nat.reduceShiftRight,Int.reduceToNat,reduceCtorEq,Nat.reduceAdd,Nat.reduceMul,Nat.reduceSub,Nat.reduceBEq,Nat.reduceEqDiff,Nat.reduceLeDiff,Nat.reduceBneDiff,Nat.reduceBNe,↓reduceIte])
       refine ⟨by omega,by omega,j + 1,by omega,by omega,?_⟩
       rw [hk,hn]
       refine Aj.fr [0] [] hx Ax Ak ?_ ?_
       ·simp only [A7,Nat.reduceLT,reduceCtorEq,Nat.reduceEqDiff,Nat.reduceLeDiff,Nat.reduceBEq]
        by_cases h0:i=0
        ·simp only [if_pos h0,A7,Nat.reduceLT,reduceCtorEq,Nat.reduceEqDiff,Nat.reduceLeDiff,Nat.reduceBEq]
        ·simp only [if_neg h0,A7,Nat.reduceLT,reduceCtorEq,Nat.reduceEqDiff,Nat.reduceLeDiff,Nat.reduceBEq]
       ·by_cases h0:i=0
        ·simp only [if_pos h0,A7,Nat.reduceLT,reduceCtorEq,Nat.reduceEqDiff,Nat.reduceLeDiff,Nat.reduceBEq]
        ·simp only [if_neg h0,A7,Nat.reduceLT,reduceCtorEq,Nat.reduceEqDiff,Nat.reduceLeDiff,Nat.reduceBEq]
      ·have d3:decide ((255:Int) < ((lf (7 * i + j) * 2:Nat):Int))=false:=decide_eq_false Aa
       have hn:lf (7 * i + (j + 1))=lf (7 * i + j) * 2:=by show lf (7 * i + j + 1)=_;rw [lf,if_neg hc]
       (refine es 30 ?_;simp (maxSteps:=2000000) only [W1,FQ,FU,hs,hm,d1,d2,d3,w2,wx,wu,wj,Dx,↓Ab,A5,Ad,Nat.reduceLT,Int.reduceLE,Int.reduceLT,Nat.reducePow,Nat.reduceAnd,Nat.reduceOr,Nat.reduceShiftRight,Int.reduceToNat,reduceCtorEq,Nat.reduceAdd,Nat.reduceMul,Nat.reduceSub,Nat.reduceBEq,Nat.reduceEqDiff,Nat.reduceLeDiff,Nat.reduceBneDiff,Nat.reduceBNe,↓reduceIte])
       refine ⟨by omega,by omega,j + 1,by omega,by omega,?_⟩
       rw [hk,hn]
       refine Aj.fr [0] [] hx Ax Ak ?_ ?_
       ·simp only [A7,Nat.reduceLT,reduceCtorEq,Nat.reduceEqDiff,Nat.reduceLeDiff,Nat.reduceBEq]
        by_cases h0:i=0
        ·simp only [if_pos h0,A7,Nat.reduceLT,reduceCtorEq,Nat.reduceEqDiff,Nat.reduceLeDiff,Nat.reduceBEq]
        ·simp only [if_neg h0,A7,Nat.reduceLT,reduceCtorEq,Nat.reduceEqDiff,Nat.reduceLeDiff,Nat.reduceBEq]
       ·by_cases h0:i=0
        ·simp only [if_pos h0,A7,Nat.reduceLT,reduceCtorEq,Nat.reduceEqDiff,Nat.reduceLeDiff,Nat.reduceBEq]
        ·simp only [if_neg h0,A7,Nat.reduceLT,reduceCtorEq,Nat.reduceEqDiff,Nat.reduceLeDiff,Nat.reduceBEq]
     ·have d2:decide (((lf (7 * i + j) % 2:Nat):Int)=1)=false:=decide_eq_false Aa
      have hk:kk i (j + 1)=kk i j:=by rw [kk,if_neg hb]
      by_cases hc:255 < lf (7 * i + j) * 2
      ·have d3:decide ((255:Int) < ((lf (7 * i + j) * 2:Nat):Int))=true:=decide_eq_true Aa
       have hn:lf (7 * i + (j + 1))=(lf (7 * i + j) * 2) ^^^ 369:=by show lf (7 * i + j + 1)=_;rw [lf,if_pos hc]
       (refine es 30 ?_;simp (maxSteps:=2000000) only [W1,FQ,FU,hs,hm,d1,d2,d3,w2,wx,wu,wj,Dx,↓Ab,A5,Ad,Nat.reduceLT,Int.reduceLE,Int.reduceLT,Nat.reducePow,Nat.reduceAnd,Nat.reduceOr,Nat.reduceShiftRight,Int.reduceToNat,reduceCtorEq,Nat.reduceAdd,Nat.reduceMul,Nat.reduceSub,Nat.reduceBEq,Nat.reduceEqDiff,Nat.reduceLeDiff,Nat.reduceBneDiff,Nat.reduceBNe,↓reduceIte])
       refine ⟨by omega,j + 1,by omega,by omega,?_⟩
       rw [hk,hn]
       refine Aj.fr [0] [] hx Ax Ak ?_ ?_
       ·simp only [A7,Nat.reduceLT,reduceCtorEq,Nat.reduceEqDiff,Nat.reduceLeDiff,Nat.reduceBEq]
        by_cases h0:i=0
        ·simp only [if_pos h0,A7,Nat.reduceLT,reduceCtorEq,Nat.reduceEqDiff,Nat.reduceLeDiff,Nat.reduceBEq]
        ·simp only [if_neg h0,A7,Nat.reduceLT,reduceCtorEq,Nat.reduceEqDiff,Nat.reduceLeDiff,Nat.reduceBEq]
       ·by_cases h0:i=0
        ·simp only [if_pos h0,A7,Nat.reduceLT,reduceCtorEq,Nat.reduceEqDiff,Nat.reduceLeDiff,Nat.reduceBEq]
        ·simp only [if_neg h0,A7,Nat.reduceLT,reduceCtorEq,Nat.reduceEqDiff,Nat.reduceLeDiff,Nat.reduceBEq]
      ·have d3:decide ((255:Int) < ((lf (7 * i + j) * 2:Nat):Int))=false:=decide_eq_false Aa
       have hn:lf (7 * i + (j + 1))=lf (7 * i + j) * 2:=by show lf (7 * i + j + 1)=_;rw [lf,if_neg hc]
       (refine es 30 ?_;simp (maxSteps:=2000000) only [W1,FQ,FU,hs,hm,d1,d2,d3,w2,wx,wu,wj,Dx,↓Ab,A5,Ad,Nat.reduceLT,Int.reduceLE,Int.reduceLT,Nat.reducePow,Nat.reduceAnd,Nat.reduceOr,Nat.reduceShiftRight,Int.reduceToNat,reduceCtorEq,Nat.reduceAdd,Nat.reduceMul,Nat.reduceSub,Nat.reduceBEq,Nat.reduceEqDiff,Nat.reduceLeDiff,Nat.reduceBneDiff,Nat.reduceBNe,↓reduceIte])
       refine ⟨by omega,j + 1,by omega,by omega,?_⟩
       rw [hk,hn]
       refine Aj.fr [0] [] hx Ax Ak ?_ ?_
       ·simp only [A7,Nat.reduceLT,reduceCtorEq,Nat.reduceEqDiff,Nat.reduceLeDiff,Nat.reduceBEq]
        by_cases h0:i=0
        ·simp only [if_pos h0,A7,Nat.reduceLT,reduceCtorEq,Nat.reduceEqDiff,Nat.reduceLeDiff,Nat.reduceBEq]
        ·simp only [if_neg h0,A7,Nat.reduceLT,reduceCtorEq,Nat.reduceEqDiff,Nat.reduceLeDiff,Nat.reduceBEq]
       ·by_cases h0:i=0
        ·simp only [if_pos h0,A7,Nat.reduceLT,reduceCtorEq,Nat.reduceEqDiff,Nat.reduceLeDiff,Nat.reduceBEq]
        ·simp only [if_neg h0,A7,Nat.reduceLT,reduceCtorEq,Nat.reduceEqDiff,Nat.reduceLeDiff,Nat.reduceBEq]
def I3:Nat→Nat × Nat
 | 0=>(1,0)
 | t + 1=>((I3 t).2,(2 * (I3 t).1 + 3 * (I3 t).2) % 5)
def tv:Nat→Nat→Nat
 | 0,_=>0
 | q + 1,j=>if j=(I3 q).1 + 5 * (I3 q).2 then ((q + 1) * (q + 2) / 2) % 64 else tv q j
theorem Afm:∀ t,t≤24→(I3 t).1 < 5∧(I3 t).2 < 5:=Ak
theorem R5 {M:Seat} (ok:OkB M) :
 Af M 414 [] [] 0 (Q3 (.sl 0 [] 0 25 1) [(0,.ar 1 25 (fun j=>.int .i64 (tv 24 j:Nat)))] 1):=by
 refine Ac ok.k414 rfl fun x hx=>?_
 refine es 30 ?_
 simp only [Agm,Al6,Dx,↓Ab,A5,Ad,seval]
 repeat refine sd ?_
 refine Ag (σ:=Nat) (fun t=>t≤24) (fun t=>fr 33 [(1,.sl 0 [] 0 25 1),(2,.int .i64 ((I3 t).1:Nat)),(3,.int .i64 ((I3 t).2:Nat)),(4,.int .i64 t)])
  (fun t=>[(0,.ar 1 25 (fun j=>.int .i64 (tv t j:Nat)))]) (fun _=>1) (fun t=>24 - t) 0 Aa ?_ ?_
 ·refine Aj.fr [16] [] hx Ax Ak ?_ ?_
  ·simp only [A7,seval]
   exact ⟨rfl,rfl⟩
  ·simp only [A7,seval]
   exact fun _ _=>rfl
 ·intro t ht
  by_cases h24:t=24
  ·subst h24
   have d0:decide (((24:Nat):Int) < 24)=false:=rfl
   (refine es 30 ?_;simp (maxSteps:=2000000) only [d0,Dx,↓Ab,A5,Ad,seval])
   refine Aq.mk hx [0] [] (.sl 0 [] 0 25 1) [(0,.ar 1 25 (fun j=>.int .i64 (tv 24 j:Nat)))] 1 Ak ?_ ?_ ?_ ⟨rfl,rfl,rfl⟩
   ·simp only [Lc,↓Ab,ex,Ro,AC,A5,Ad,seval]
   ·simp only [Lb,↓Ab,ex,Ro,AC,A5,Ad,seval]
   ·simp only [A7,seval]
  ·have d0:decide ((t:Int) < 24)=true:=decide_eq_true Aa
   obtain ⟨hx5,hy5⟩:=Afm t ht
   have w1:IntKind.i64.wrap ((t:Int) + 1)=((t + 1:Nat):Int):=A9
   have w2:IntKind.i64.wrap ((t:Int) + 2)=((t + 2:Nat):Int):=A9
   have w3:IntKind.i64.wrap (5 * (((I3 t).2:Nat):Int))=((5 * (I3 t).2:Nat):Int):=A9
   have w4:IntKind.i64.wrap ((((I3 t).1:Nat):Int) + ((5 * (I3 t).2:Nat):Int))=(((I3 t).1 + 5 * (I3 t).2:Nat):Int):=A9
   have hm:(t + 1) * (t + 2)≤25 * 26:=Nat.mul_le_mul Aa Aa
   have w5:IntKind.i64.wrap (((t + 1:Nat):Int) * ((t + 2:Nat):Int))=(((t + 1) * (t + 2):Nat):Int):=by rw [← Int.natCast_mul,AI Aa]
   have w6:IntKind.i64.wrap ((((t + 1) * (t + 2):Nat):Int).tdiv 2)=(((t + 1) * (t + 2) / 2:Nat):Int):=V5 Aa
   have w7:((((t + 1) * (t + 2) / 2:Nat):Int)).tmod 64=(((t + 1) * (t + 2) / 2 % 64:Nat):Int):=Ji
   have w8:IntKind.i64.wrap (2 * (((I3 t).1:Nat):Int))=((2 * (I3 t).1:Nat):Int):=A9
   have w9:IntKind.i64.wrap (3 * (((I3 t).2:Nat):Int))=((3 * (I3 t).2:Nat):Int):=A9
   have wa:IntKind.i64.wrap (((2 * (I3 t).1:Nat):Int) + ((3 * (I3 t).2:Nat):Int))=((2 * (I3 t).1 + 3 * (I3 t).2:Nat):Int):=A9
   have wb:(((2 * (I3 t).1 + 3 * (I3 t).2:Nat):Int)).tmod 5=(((2 * (I3 t).1 + 3 * (I3 t).2) % 5:Nat):Int):=Ji
   (refine es 30 ?_;simp (maxSteps:=2000000) only [d0,w1,w2,w3,w4,w5,w6,w7,w8,w9,wa,wb,Dx,↓Ab,A5,Ad,seval])
   repeat refine sd ?_
   refine ⟨t + 1,by omega,by omega,?_⟩
   refine Aj.fr [0] [] hx Ax Ak ?_ ?_
   ·simp only [A7,seval]
    exact ⟨rfl,rfl⟩
   ·simp only [A7,seval]
    intro j hj
    rw [tv]
    split <;> rfl
def mq (L:List (BitVec 64)) (c:Nat):Nat→BitVec 64
 | 0=>0
 | y + 1=>mq L c y ^^^ L.getD (c + 5 * y) 0
theorem Am0 (L:List (BitVec 64)) (c:Nat):mq L c 5=par L c:=by
 simp [mq,par]
def bq (L:List (BitVec 64)) (x y j:Nat):BitVec 64:=if j % 5 < x ∨ (j % 5=x∧j / 5 < y) then Jm L 5 j else 0
def cq (L:List (BitVec 64)) (x y j:Nat):BitVec 64 :=
 if F8.getD j 0 % 5 < x ∨ (F8.getD j 0 % 5=x∧F8.getD j 0 / 5 < y) then Qk (Jm L 5 (F8.getD j 0)) (W3.getD j 0) else 0
theorem Afu:∀ x,x < 5→∀ y,y < 5→∀ j,j < 25→(j=y + 5 * ((2 * x + 3 * y) % 5) ↔ F8.getD j 0=x + 5 * y):=Ak
theorem Ai7:∀ j,j < 25→W3.getD j 0=tv 24 (F8.getD j 0):=Ak
theorem Al8:∀ j,j < 25→tv 24 j < 64:=Ak
def aq (L C:List (BitVec 64)) (n j:Nat):BitVec 64:=if j < n then Gd C 5 j else L.getD j 0
theorem Wm:V.int .u64 18446744073709551615=W (BitVec.allOnes 64):=rfl
abbrev Ani (s:List (BitVec 64)):V→Hp→Nat→Prop:=fun r H' k'=>r = .ar 1 25 (ws (RF s))∧H'=[]∧k'=0
theorem NA {M:Seat} (ok:OkB M) (s:List (BitVec 64)) :
 Af M 415 [.ar 1 25 (ws s),.lst 1 24 (ws rc),.lst 1 25 (fun j=>.int .i64 (tv 24 j:Nat))] [] 0 (Ani s):=by
 refine Ac ok.k415 rfl fun x hx=>?_
 refine es 30 ?_
 simp only [Ag4,Al9,Dx,↓Ab,A5,Ad,Nat.reduceLT,Int.reduceLE,Int.reduceLT,Nat.reducePow,Nat.reduceAnd,Nat.reduceOr,Nat.reduceShiftRight,Int.reduceToNat,reduceCtorEq,Nat.reduceAdd,Nat.reduceMul,Nat.reduceSub,Nat.reduceBEq,Nat.reduceEqDiff,Nat.reduceLeDiff,Nat.reduceBneDiff,Nat.reduceBNe,↓reduceIte]
 refine Ag (σ:=Nat) (fun i=>i≤24) (fun i=>fr 146 [(1,.lst 1 24 (ws rc)),(2,.lst 1 25 (fun j=>.int .i64 (tv 24 j:Nat))),(3,.ptr 0 []),(6,.ptr 1 []),(7,.int .i64 i)])
  (fun i=>[(0,.ar 1 25 (ws (H6 s i))),(1,.ar 1 25 (fun _=>W 0))]) (fun _=>2) (fun i=>24 - i) 0 Aa ?_ ?_
 ·refine Aj.fr [0,16] [] hx Ax Ak ?_ ?_
  ·simp only [A7,Nat.reduceLT,reduceCtorEq,Nat.reduceEqDiff,Nat.reduceLeDiff,Nat.reduceBEq]
  ·simp only [A7,Nat.reduceLT,reduceCtorEq,Nat.reduceEqDiff,Nat.reduceLeDiff,Nat.reduceBEq,W_0]
   exact fun _ _=>rfl
 ·intro i hi
  by_cases h24:i=24
  ·subst h24
   have d0:decide (((24:Nat):Int) < 24)=false:=rfl
   (refine es 30 ?_;simp (maxSteps:=2000000) only [d0,Dx,↓Ab,A5,Ad,Nat.reduceLT,Int.reduceLE,Int.reduceLT,Nat.reducePow,Nat.reduceAnd,Nat.reduceOr,Nat.reduceShiftRight,Int.reduceToNat,reduceCtorEq,Nat.reduceAdd,Nat.reduceMul,Nat.reduceSub,Nat.reduceBEq,Nat.reduceEqDiff,Nat.reduceLeDiff,Nat.reduceBneDiff,Nat.reduceBNe,↓reduceIte])
   refine Aq.mk hx [] [] (.ar 1 25 (ws (RF s))) [] 0 Ak ?_ ?_ trivial ⟨rfl,rfl,rfl⟩
   ·simp only [Lc,↓Ab,ex,Ro,AC,A5,Ad,Nat.reduceLT,Int.reduceLE,Int.reduceLT,Nat.reducePow,Nat.reduceAnd,Nat.reduceOr,Nat.reduceShiftRight,Int.reduceToNat,reduceCtorEq,Nat.reduceAdd,Nat.reduceMul,Nat.reduceSub,Nat.reduceBEq,Nat.reduceEqDiff]
   ·simp only [Lb,↓Ab,ex,Ro,AC,A5,Ad,Nat.reduceLT,Int.reduceLE,Int.reduceLT,Nat.reducePow,Nat.reduceAnd,Nat.reduceOr,Nat.reduceShiftRight,Int.reduceToNat,reduceCtorEq,Nat.reduceAdd,Nat.reduceMul,Nat.reduceSub,Nat.reduceBEq,Nat.reduceEqDiff,Nat.reduceLeDiff]
    exact fun _ _=>rfl
  have d0:decide ((i:Int) < 24)=true:=decide_eq_true Aa
  have wi:IntKind.i64.wrap ((i:Int) + 1)=((i + 1:Nat):Int):=A9
  have hnext:H6 s (i + 1)=rnd (H6 s i) i:=rfl
  generalize H6 s i=L at hnext ⊢
  (refine es 30 ?_;simp (maxSteps:=2000000) only [d0,Dx,↓Ab,A5,Ad,Nat.reduceLT,Int.reduceLE,Int.reduceLT,Nat.reducePow,Nat.reduceAnd,Nat.reduceOr,Nat.reduceShiftRight,Int.reduceToNat,reduceCtorEq,Nat.reduceAdd,Nat.reduceMul,Nat.reduceSub,Nat.reduceBEq,Nat.reduceEqDiff,Nat.reduceLeDiff,Nat.reduceBneDiff,Nat.reduceBNe,↓reduceIte])
  refine Ag (σ:=Nat) (fun x=>x≤5) (fun x=>fr 146 [(1,.lst 1 24 (ws rc)),(2,.lst 1 25 (fun j=>.int .i64 (tv 24 j:Nat))),(3,.ptr 0 []),(6,.ptr 1 []),(7,.int .i64 i),(8,.ptr 2 []),(9,.ptr 3 []),(10,.int .i64 x)])
   (fun x=>[(0,.ar 1 25 (ws L)),(1,.ar 1 25 (fun _=>W 0)),(2,.ar 1 25 (fun j=>W (bq L x 0 j))),(3,.ar 1 25 (fun _=>W 0))]) (fun _=>4) (fun x=>5 - x) 0 Aa ?_ ?_
  ·refine Aj.fr [0,1,34,50] [] hx Ax Ak ?_ ?_
   ·simp only [A7,Nat.reduceLT,reduceCtorEq,Nat.reduceEqDiff,Nat.reduceLeDiff,Nat.reduceBEq]
   ·simp only [A7,Nat.reduceLT,reduceCtorEq,Nat.reduceEqDiff,Nat.reduceLeDiff,Nat.reduceBEq,W_0]
    exact fun j _=>by rw [bq,if_neg Aa]
  ·intro u hu
   by_cases h5:u=5
   ·subst h5
    have d1:decide (((5:Nat):Int) < 5)=false:=rfl
    (refine es 30 ?_;simp (maxSteps:=2000000) only [d1,Dx,↓Ab,A5,Ad,Nat.reduceLT,Int.reduceLE,Int.reduceLT,Nat.reducePow,Nat.reduceAnd,Nat.reduceOr,Nat.reduceShiftRight,Int.reduceToNat,reduceCtorEq,Nat.reduceAdd,Nat.reduceMul,Nat.reduceSub,Nat.reduceBEq,Nat.reduceEqDiff,Nat.reduceLeDiff,Nat.reduceBneDiff,Nat.reduceBNe,↓reduceIte])
    have hbt:∀ j,j < 25→bq L 5 0 j=Jm L 5 j:=fun j hj=>by rw [bq,if_pos Aa]
    refine Ag (σ:=Nat) (fun u=>u≤5) (fun u=>fr 146 [(1,.lst 1 24 (ws rc)),(2,.lst 1 25 (fun j=>.int .i64 (tv 24 j:Nat))),(3,.ptr 0 []),(6,.ptr 1 []),(7,.int .i64 i),(8,.ptr 2 []),(9,.ptr 3 []),(15,.int .i64 u)])
     (fun u=>[(0,.ar 1 25 (ws L)),(1,.ar 1 25 (fun _=>W 0)),(2,.ar 1 25 (fun j=>W (Jm L 5 j))),(3,.ar 1 25 (fun j=>W (cq L u 0 j)))]) (fun _=>4) (fun u=>5 - u) 0 Aa ?_ ?_
    ·refine Aj.fr [0,1,2,3] [] hx Ax Ak ?_ ?_
     ·simp only [A7,Nat.reduceLT,reduceCtorEq,Nat.reduceEqDiff,Nat.reduceLeDiff,Nat.reduceBEq]
     ·simp only [A7,Nat.reduceLT,reduceCtorEq,Nat.reduceEqDiff,Nat.reduceLeDiff,Nat.reduceBEq]
      exact ⟨hbt,fun j _=>by rw [cq,if_neg Aa]⟩
    ·intro u hu
     by_cases h5:u=5
     ·subst h5
      have d1:decide (((5:Nat):Int) < 5)=false:=rfl
      (refine es 30 ?_;simp (maxSteps:=2000000) only [d1,Dx,↓Ab,A5,Ad,Nat.reduceLT,Int.reduceLE,Int.reduceLT,Nat.reducePow,Nat.reduceAnd,Nat.reduceOr,Nat.reduceShiftRight,Int.reduceToNat,reduceCtorEq,Nat.reduceAdd,Nat.reduceMul,Nat.reduceSub,Nat.reduceBEq,Nat.reduceEqDiff,Nat.reduceLeDiff,Nat.reduceBneDiff,Nat.reduceBNe,↓reduceIte])
      have hC:∀ j,j < 25→cq L 5 0 j=(Kv (th L) 24).2.getD j 0:=fun j hj=>by
       have hs:=JC j hj
       rw [V8 _ (Q8 L) j hj,Sg _ _ hs,cq,if_pos Aa]
      generalize hCl:(Kv (th L) 24).2=C at hC
      refine Ag (σ:=Nat) (fun y=>y≤5) (fun y=>fr 146 [(1,.lst 1 24 (ws rc)),(2,.lst 1 25 (fun j=>.int .i64 (tv 24 j:Nat))),(3,.ptr 0 []),(6,.ptr 1 []),(7,.int .i64 i),(8,.ptr 2 []),(9,.ptr 3 []),(17,.int .i64 y)])
       (fun y=>[(0,.ar 1 25 (fun j=>W (aq L C (5 * y) j))),(1,.ar 1 25 (fun _=>W 0)),(2,.ar 1 25 (fun j=>W (Jm L 5 j))),(3,.ar 1 25 (ws C))]) (fun _=>4) (fun y=>5 - y) 0 Aa ?_ ?_
      ·refine Aj.fr [0,1,2,3] [] hx Ax Ak ?_ ?_
       ·simp only [A7,Nat.reduceLT,reduceCtorEq,Nat.reduceEqDiff,Nat.reduceLeDiff,Nat.reduceBEq]
       ·simp only [A7,Nat.reduceLT,reduceCtorEq,Nat.reduceEqDiff,Nat.reduceLeDiff,Nat.reduceBEq]
        exact ⟨fun j _=>by rw [aq,if_neg Aa],hC⟩
      ·intro y hy
       by_cases hy5:y=5
       ·subst hy5
        have d2:decide (((5:Nat):Int) < 5)=false:=rfl
        (refine es 30 ?_;simp (maxSteps:=2000000) only [d2,wi,Dx,↓Ab,A5,Ad,Nat.reduceLT,Int.reduceLE,Int.reduceLT,Nat.reducePow,Nat.reduceAnd,Nat.reduceOr,Nat.reduceShiftRight,Int.reduceToNat,reduceCtorEq,Nat.reduceAdd,Nat.reduceMul,Nat.reduceSub,Nat.reduceBEq,Nat.reduceEqDiff,Nat.reduceLeDiff,Nat.reduceBneDiff,Nat.reduceBNe,↓reduceIte])
        refine ⟨by omega,i + 1,by omega,by omega,?_⟩
        rw [hnext]
        refine Aj.fr [0,1] [] hx Ax Ak ?_ ?_
        ·simp only [A7,Nat.reduceLT,reduceCtorEq,Nat.reduceEqDiff,Nat.reduceLeDiff,Nat.reduceBEq]
        ·simp only [A7,Nat.reduceLT,reduceCtorEq,Nat.reduceEqDiff,Nat.reduceLeDiff,Nat.reduceBEq]
         intro j hj
         rw [R3 _ _ _ hj,hCl]
         unfold aq
         by_cases h0:j=0
         ·subst h0
          rw [if_pos rfl,if_pos rfl,if_pos Aa]
         ·rw [if_neg h0,if_neg h0,if_pos Aa]
       ·have d2:decide ((y:Int) < 5)=true:=decide_eq_true Aa
        have wy:IntKind.i64.wrap ((y:Int) + 1)=((y + 1:Nat):Int):=A9
        (refine es 30 ?_;simp (maxSteps:=2000000) only [d2,Dx,↓Ab,A5,Ad,Nat.reduceLT,Int.reduceLE,Int.reduceLT,Nat.reducePow,Nat.reduceAnd,Nat.reduceOr,Nat.reduceShiftRight,Int.reduceToNat,reduceCtorEq,Nat.reduceAdd,Nat.reduceMul,Nat.reduceSub,Nat.reduceBEq,Nat.reduceEqDiff,Nat.reduceLeDiff,Nat.reduceBneDiff,Nat.reduceBNe,↓reduceIte])
        refine Ag (σ:=Nat) (fun u=>u≤5) (fun u=>fr 146 [(1,.lst 1 24 (ws rc)),(2,.lst 1 25 (fun j=>.int .i64 (tv 24 j:Nat))),(3,.ptr 0 []),(6,.ptr 1 []),(7,.int .i64 i),(8,.ptr 2 []),(9,.ptr 3 []),(17,.int .i64 y),(18,.int .i64 u)])
         (fun u=>[(0,.ar 1 25 (fun j=>W (aq L C (5 * y + u) j))),(1,.ar 1 25 (fun _=>W 0)),(2,.ar 1 25 (fun j=>W (Jm L 5 j))),(3,.ar 1 25 (ws C))]) (fun _=>4) (fun u=>5 - u) 0 Aa ?_ ?_
        ·refine Aj.fr [0,1,2,3] [] hx Ax Ak ?_ ?_
         ·simp only [A7,Nat.reduceLT,reduceCtorEq,Nat.reduceEqDiff,Nat.reduceLeDiff,Nat.reduceBEq]
         ·simp only [A7,Nat.reduceLT,reduceCtorEq,Nat.reduceEqDiff,Nat.reduceLeDiff,Nat.reduceBEq]
          exact fun _ _=>rfl
        ·intro u hu
         by_cases hu5:u=5
         ·subst hu5
          have d3:decide (((5:Nat):Int) < 5)=false:=rfl
          (refine es 30 ?_;simp (maxSteps:=2000000) only [d3,wy,Dx,↓Ab,A5,Ad,Nat.reduceLT,Int.reduceLE,Int.reduceLT,Nat.reducePow,Nat.reduceAnd,Nat.reduceOr,Nat.reduceShiftRight,Int.reduceToNat,reduceCtorEq,Nat.reduceAdd,Nat.reduceMul,Nat.reduceSub,Nat.reduceBEq,Nat.reduceEqDiff,Nat.reduceLeDiff,Nat.reduceBneDiff,Nat.reduceBNe,↓reduceIte])
          refine ⟨y + 1,by omega,by omega,?_⟩
          refine Aj.fr [0,1,2,3] [] hx Ax Ak ?_ ?_
          ·simp only [A7,Nat.reduceLT,reduceCtorEq,Nat.reduceEqDiff,Nat.reduceLeDiff,Nat.reduceBEq]
          ·simp only [A7,Nat.reduceLT,reduceCtorEq,Nat.reduceEqDiff,Nat.reduceLeDiff,Nat.reduceBEq]
           exact fun _ _=>rfl
         ·have d3:decide ((u:Int) < 5)=true:=decide_eq_true Aa
          have w1:IntKind.i64.wrap ((u:Int) + 1)=((u + 1:Nat):Int):=A9
          have w2:IntKind.i64.wrap (5 * (y:Int))=((5 * y:Nat):Int):=A9
          have w3:IntKind.i64.wrap ((u:Int) + ((5 * y:Nat):Int))=((u + 5 * y:Nat):Int):=A9
          have w4:((u + 1:Nat):Int).tmod 5=(((u + 1) % 5:Nat):Int):=Ji
          have w5:IntKind.i64.wrap ((((u + 1) % 5:Nat):Int) + ((5 * y:Nat):Int))=(((u + 1) % 5 + 5 * y:Nat):Int):=A9
          have w6:IntKind.i64.wrap ((u:Int) + 2)=((u + 2:Nat):Int):=A9
          have w7:((u + 2:Nat):Int).tmod 5=(((u + 2) % 5:Nat):Int):=Ji
          have w8:IntKind.i64.wrap ((((u + 2) % 5:Nat):Int) + ((5 * y:Nat):Int))=(((u + 2) % 5 + 5 * y:Nat):Int):=A9
          (refine es 30 ?_;simp (maxSteps:=2000000) only [Wm,d3,w1,w2,w3,w4,w5,w6,w7,w8,Dx,↓Ab,A5,Ad,Nat.reduceLT,Int.reduceLE,Int.reduceLT,Nat.reducePow,Nat.reduceAnd,Nat.reduceOr,Nat.reduceShiftRight,Int.reduceToNat,reduceCtorEq,Nat.reduceAdd,Nat.reduceMul,Nat.reduceSub,Nat.reduceBEq,Nat.reduceEqDiff,Nat.reduceLeDiff,Nat.reduceBneDiff,Nat.reduceBNe,↓reduceIte])
          refine ⟨by omega,by omega,by omega,by omega,by omega,by omega,by omega,by omega,by omega,by omega,by omega,by omega,by omega,u + 1,by omega,by omega,?_⟩
          refine Aj.fr [0,1,2,3] [] hx Ax Ak ?_ ?_
          ·simp only [A7,Nat.reduceLT,reduceCtorEq,Nat.reduceEqDiff,Nat.reduceLeDiff,Nat.reduceBEq]
          ·simp only [A7,Nat.reduceLT,reduceCtorEq,Nat.reduceEqDiff,Nat.reduceLeDiff,Nat.reduceBEq]
           intro j hj
           by_cases h1:j=u + 5 * y
           ·subst h1
            have e1:(u + 5 * y) / 5=y:=Aa
            have e2:(u + 5 * y + 1) % 5=(u + 1) % 5:=Aa
            have e3:(u + 5 * y + 2) % 5=(u + 2) % 5:=Aa
            rw [if_pos rfl,aq,if_pos Aa,Gd,if_pos Aa,e1,e2,e3,BitVec.xor_allOnes,Nat.add_comm (5 * y),Nat.add_comm (5 * y)]
           ·rw [if_neg h1]
            unfold aq
            by_cases h2:j < 5 * y + u
            ·rw [if_pos h2,if_pos Aa]
            ·rw [if_neg h2,if_neg Aa]
     ·have d1:decide ((u:Int) < 5)=true:=decide_eq_true Aa
      have wu:IntKind.i64.wrap ((u:Int) + 1)=((u + 1:Nat):Int):=A9
      (refine es 30 ?_;simp (maxSteps:=2000000) only [d1,Dx,↓Ab,A5,Ad,Nat.reduceLT,Int.reduceLE,Int.reduceLT,Nat.reducePow,Nat.reduceAnd,Nat.reduceOr,Nat.reduceShiftRight,Int.reduceToNat,reduceCtorEq,Nat.reduceAdd,Nat.reduceMul,Nat.reduceSub,Nat.reduceBEq,Nat.reduceEqDiff,Nat.reduceLeDiff,Nat.reduceBneDiff,Nat.reduceBNe,↓reduceIte])
      refine Ag (σ:=Nat) (fun y=>y≤5) (fun y=>fr 146 [(1,.lst 1 24 (ws rc)),(2,.lst 1 25 (fun j=>.int .i64 (tv 24 j:Nat))),(3,.ptr 0 []),(6,.ptr 1 []),(7,.int .i64 i),(8,.ptr 2 []),(9,.ptr 3 []),(15,.int .i64 u),(16,.int .i64 y)])
       (fun y=>[(0,.ar 1 25 (ws L)),(1,.ar 1 25 (fun _=>W 0)),(2,.ar 1 25 (fun j=>W (Jm L 5 j))),(3,.ar 1 25 (fun j=>W (cq L u y j)))]) (fun _=>4) (fun y=>5 - y) 0 Aa ?_ ?_
      ·refine Aj.fr [0,1,2,3] [] hx Ax Ak ?_ ?_
       ·simp only [A7,Nat.reduceLT,reduceCtorEq,Nat.reduceEqDiff,Nat.reduceLeDiff,Nat.reduceBEq]
       ·simp only [A7,Nat.reduceLT,reduceCtorEq,Nat.reduceEqDiff,Nat.reduceLeDiff,Nat.reduceBEq]
      ·intro y hy
       by_cases hy5:y=5
       ·subst hy5
        have d2:decide (((5:Nat):Int) < 5)=false:=rfl
        (refine es 30 ?_;simp (maxSteps:=2000000) only [d2,wu,Dx,↓Ab,A5,Ad,Nat.reduceLT,Int.reduceLE,Int.reduceLT,Nat.reducePow,Nat.reduceAnd,Nat.reduceOr,Nat.reduceShiftRight,Int.reduceToNat,reduceCtorEq,Nat.reduceAdd,Nat.reduceMul,Nat.reduceSub,Nat.reduceBEq,Nat.reduceEqDiff,Nat.reduceLeDiff,Nat.reduceBneDiff,Nat.reduceBNe,↓reduceIte])
        refine ⟨u + 1,by omega,by omega,?_⟩
        refine Aj.fr [0,1,2,3] [] hx Ax Ak ?_ ?_
        ·simp only [A7,Nat.reduceLT,reduceCtorEq,Nat.reduceEqDiff,Nat.reduceLeDiff,Nat.reduceBEq]
        ·simp only [A7,Nat.reduceLT,reduceCtorEq,Nat.reduceEqDiff,Nat.reduceLeDiff,Nat.reduceBEq]
         intro j hj
         have hs:=JC j hj
         unfold cq
         by_cases h1:F8.getD j 0 % 5 < u ∨ (F8.getD j 0 % 5=u∧F8.getD j 0 / 5 < 5)
         ·rw [if_pos h1,if_pos Aa]
         ·rw [if_neg h1,if_neg Aa]
       ·have d2:decide ((y:Int) < 5)=true:=decide_eq_true Aa
        have w1:IntKind.i64.wrap ((y:Int) + 1)=((y + 1:Nat):Int):=A9
        have w2:IntKind.i64.wrap (5 * (y:Int))=((5 * y:Nat):Int):=A9
        have w3:IntKind.i64.wrap ((u:Int) + ((5 * y:Nat):Int))=((u + 5 * y:Nat):Int):=A9
        have w4:IntKind.i64.wrap (2 * (u:Int))=((2 * u:Nat):Int):=A9
        have w5:IntKind.i64.wrap (3 * (y:Int))=((3 * y:Nat):Int):=A9
        have w6:IntKind.i64.wrap (((2 * u:Nat):Int) + ((3 * y:Nat):Int))=((2 * u + 3 * y:Nat):Int):=A9
        have w7:((2 * u + 3 * y:Nat):Int).tmod 5=(((2 * u + 3 * y) % 5:Nat):Int):=Ji
        have w8:IntKind.i64.wrap (5 * (((2 * u + 3 * y) % 5:Nat):Int))=((5 * ((2 * u + 3 * y) % 5):Nat):Int):=A9
        have w9:IntKind.i64.wrap ((y:Int) + ((5 * ((2 * u + 3 * y) % 5):Nat):Int))=((y + 5 * ((2 * u + 3 * y) % 5):Nat):Int):=A9
        (refine es 30 ?_;simp (maxSteps:=2000000) only [d2,w1,w2,w3,w4,w5,w6,w7,w8,w9,Dx,↓Ab,A5,Ad,Nat.reduceLT,Int.reduceLE,Int.reduceLT,Nat.reducePow,Nat.reduceAnd,Nat.reduceOr,Nat.reduceShiftRight,Int.reduceToNat,reduceCtorEq,Nat.reduceAdd,Nat.reduceMul,Nat.reduceSub,Nat.reduceBEq,Nat.reduceEqDiff,Nat.reduceLeDiff,Nat.reduceBneDiff,Nat.reduceBNe,↓reduceIte])
        refine ⟨by omega,by omega,by omega,by omega,_,_,AB (Mf ok _ _ (Al8 (u + 5 * y) Aa)) ⟨rfl,rfl,trivial⟩ rfl ⟨rfl,rfl⟩,?_⟩
        simp only [Dx,↓Ab,A5,Ad,Nat.reduceLT,Int.reduceLE,Int.reduceLT,Nat.reducePow,Nat.reduceAnd,Nat.reduceOr,Nat.reduceShiftRight,Int.reduceToNat,reduceCtorEq,Nat.reduceAdd,Nat.reduceMul,Nat.reduceSub,Nat.reduceBEq,Nat.reduceEqDiff,Nat.reduceLeDiff,Nat.reduceBneDiff,Nat.reduceBNe,↓reduceIte]
        refine ⟨by omega,by omega,by omega,y + 1,by omega,by omega,?_⟩
        refine Aj.fr [0,1,2,3] [] hx Ax Ak ?_ ?_
        ·simp only [A7,Nat.reduceLT,reduceCtorEq,Nat.reduceEqDiff,Nat.reduceLeDiff,Nat.reduceBEq]
        ·simp only [A7,Nat.reduceLT,reduceCtorEq,Nat.reduceEqDiff,Nat.reduceLeDiff,Nat.reduceBEq]
         intro j hj
         have hs:=JC j hj
         have hsa:=Afu u Aa y Aa j hj
         by_cases h1:j=y + 5 * ((2 * u + 3 * y) % 5)
         ·have h2:=hsa.mp h1
          rw [if_pos h1,cq,if_pos Aa,Ai7 j hj,h2]
         ·have h2:F8.getD j 0 ≠ u + 5 * y:=fun h=>h1 (hsa.mpr h)
          rw [if_neg h1]
          unfold cq
          by_cases h3:F8.getD j 0 % 5 < u ∨ (F8.getD j 0 % 5=u∧F8.getD j 0 / 5 < y)
          ·rw [if_pos h3,if_pos Aa]
          ·rw [if_neg h3,if_neg Aa]
   ·have d1:decide ((u:Int) < 5)=true:=decide_eq_true Aa
    have wu:IntKind.i64.wrap ((u:Int) + 1)=((u + 1:Nat):Int):=A9
    (refine es 30 ?_;simp (maxSteps:=2000000) only [d1,Dx,↓Ab,A5,Ad,Nat.reduceLT,Int.reduceLE,Int.reduceLT,Nat.reducePow,Nat.reduceAnd,Nat.reduceOr,Nat.reduceShiftRight,Int.reduceToNat,reduceCtorEq,Nat.reduceAdd,Nat.reduceMul,Nat.reduceSub,Nat.reduceBEq,Nat.reduceEqDiff,Nat.reduceLeDiff,Nat.reduceBneDiff,Nat.reduceBNe,↓reduceIte])
    refine Ag (σ:=Nat) (fun y=>y≤5) (fun y=>fr 146 [(1,.lst 1 24 (ws rc)),(2,.lst 1 25 (fun j=>.int .i64 (tv 24 j:Nat))),(3,.ptr 0 []),(6,.ptr 1 []),(7,.int .i64 i),(8,.ptr 2 []),(9,.ptr 3 []),(10,.int .i64 u),(11,W (mq L ((u + 4) % 5) y)),(12,W (mq L ((u + 1) % 5) y)),(13,.int .i64 (5 * y:Nat))])
     (fun y=>[(0,.ar 1 25 (ws L)),(1,.ar 1 25 (fun _=>W 0)),(2,.ar 1 25 (fun j=>W (bq L u 0 j))),(3,.ar 1 25 (fun _=>W 0))]) (fun _=>4) (fun y=>5 - y) 0 Aa ?_ ?_
    ·refine Aj.fr [0,1,2,3] [] hx Ax Ak ?_ ?_
     ·simp only [A7,Nat.reduceLT,reduceCtorEq,Nat.reduceEqDiff,Nat.reduceLeDiff,Nat.reduceBEq,W_0,mq]
      rfl
     ·simp only [A7,Nat.reduceLT,reduceCtorEq,Nat.reduceEqDiff,Nat.reduceLeDiff,Nat.reduceBEq]
    ·intro y hy
     by_cases hy5:y=5
     ·subst hy5
      have d2:decide (((5 * 5:Nat):Int) < 25)=false:=rfl
      (refine es 30 ?_;simp (maxSteps:=2000000) only [d2,Dx,↓Ab,A5,Ad,Nat.reduceLT,Int.reduceLE,Int.reduceLT,Nat.reducePow,Nat.reduceAnd,Nat.reduceOr,Nat.reduceShiftRight,Int.reduceToNat,reduceCtorEq,Nat.reduceAdd,Nat.reduceMul,Nat.reduceSub,Nat.reduceBEq,Nat.reduceEqDiff,Nat.reduceLeDiff,Nat.reduceBneDiff,Nat.reduceBNe,↓reduceIte])
      refine Ag (σ:=Nat) (fun y=>y≤5) (fun y=>fr 146 [(1,.lst 1 24 (ws rc)),(2,.lst 1 25 (fun j=>.int .i64 (tv 24 j:Nat))),(3,.ptr 0 []),(6,.ptr 1 []),(7,.int .i64 i),(8,.ptr 2 []),(9,.ptr 3 []),(10,.int .i64 u),(11,W (par L ((u + 4) % 5))),(12,W (par L ((u + 1) % 5))),(14,.int .i64 (5 * y:Nat))])
       (fun y=>[(0,.ar 1 25 (ws L)),(1,.ar 1 25 (fun _=>W 0)),(2,.ar 1 25 (fun j=>W (bq L u y j))),(3,.ar 1 25 (fun _=>W 0))]) (fun _=>4) (fun y=>5 - y) 0 Aa ?_ ?_
      ·refine Aj.fr [0,1,2,3] [] hx Ax Ak ?_ ?_
       ·simp only [A7,Nat.reduceLT,reduceCtorEq,Nat.reduceEqDiff,Nat.reduceLeDiff,Nat.reduceBEq,Am0]
        rfl
       ·simp only [A7,Nat.reduceLT,reduceCtorEq,Nat.reduceEqDiff,Nat.reduceLeDiff,Nat.reduceBEq]
      ·intro y hy
       by_cases hy5:y=5
       ·subst hy5
        have d2:decide (((5 * 5:Nat):Int) < 25)=false:=rfl
        (refine es 30 ?_;simp (maxSteps:=2000000) only [d2,wu,Dx,↓Ab,A5,Ad,Nat.reduceLT,Int.reduceLE,Int.reduceLT,Nat.reducePow,Nat.reduceAnd,Nat.reduceOr,Nat.reduceShiftRight,Int.reduceToNat,reduceCtorEq,Nat.reduceAdd,Nat.reduceMul,Nat.reduceSub,Nat.reduceBEq,Nat.reduceEqDiff,Nat.reduceLeDiff,Nat.reduceBneDiff,Nat.reduceBNe,↓reduceIte])
        refine ⟨u + 1,by omega,by omega,?_⟩
        refine Aj.fr [0,1,2,3] [] hx Ax Ak ?_ ?_
        ·simp only [A7,Nat.reduceLT,reduceCtorEq,Nat.reduceEqDiff,Nat.reduceLeDiff,Nat.reduceBEq]
        ·simp only [A7,Nat.reduceLT,reduceCtorEq,Nat.reduceEqDiff,Nat.reduceLeDiff,Nat.reduceBEq]
         intro j hj
         unfold bq
         by_cases h1:j % 5 < u ∨ (j % 5=u∧j / 5 < 5)
         ·rw [if_pos h1,if_pos Aa]
         ·rw [if_neg h1,if_neg Aa]
       ·have d2:decide (((5 * y:Nat):Int) < 25)=true:=decide_eq_true Aa
        have w1:IntKind.i64.wrap (((5 * y:Nat):Int) + 5)=((5 * (y + 1):Nat):Int):=A9
        have w2:IntKind.i64.wrap ((u:Int) + ((5 * y:Nat):Int))=((u + 5 * y:Nat):Int):=A9
        (refine es 30 ?_;simp (maxSteps:=2000000) only [d2,w1,w2,Dx,↓Ab,A5,Ad,Nat.reduceLT,Int.reduceLE,Int.reduceLT,Nat.reducePow,Nat.reduceAnd,Nat.reduceOr,Nat.reduceShiftRight,Int.reduceToNat,reduceCtorEq,Nat.reduceAdd,Nat.reduceMul,Nat.reduceSub,Nat.reduceBEq,Nat.reduceEqDiff,Nat.reduceLeDiff,Nat.reduceBneDiff,Nat.reduceBNe,↓reduceIte])
        refine ⟨_,_,AB (Mf ok _ 1 Aa) ⟨rfl,rfl,trivial⟩ rfl ⟨rfl,rfl⟩,?_⟩
        simp only [Dx,↓Ab,A5,Ad,Nat.reduceLT,Int.reduceLE,Int.reduceLT,Nat.reducePow,Nat.reduceAnd,Nat.reduceOr,Nat.reduceShiftRight,Int.reduceToNat,reduceCtorEq,Nat.reduceAdd,Nat.reduceMul,Nat.reduceSub,Nat.reduceBEq,Nat.reduceEqDiff,Nat.reduceLeDiff,Nat.reduceBneDiff,Nat.reduceBNe,↓reduceIte]
        refine ⟨by omega,by omega,by omega,by omega,by omega,y + 1,by omega,by omega,?_⟩
        refine Aj.fr [0,1,2,3] [] hx Ax Ak ?_ ?_
        ·simp only [A7,Nat.reduceLT,reduceCtorEq,Nat.reduceEqDiff,Nat.reduceLeDiff,Nat.reduceBEq]
        ·simp only [A7,Nat.reduceLT,reduceCtorEq,Nat.reduceEqDiff,Nat.reduceLeDiff,Nat.reduceBEq]
         intro j hj
         by_cases h1:j=u + 5 * y
         ·subst h1
          have hm:(u + 5 * y) % 5=u:=Aa
          rw [if_pos rfl,bq,if_pos Aa,Jm,if_pos Aa,QJ,hm,BitVec.xor_assoc]
         ·rw [if_neg h1]
          unfold bq
          by_cases h2:j % 5 < u ∨ (j % 5=u∧j / 5 < y)
          ·rw [if_pos h2,if_pos Aa]
          ·rw [if_neg h2,if_neg Aa]
     ·have d2:decide (((5 * y:Nat):Int) < 25)=true:=decide_eq_true Aa
      have w1:IntKind.i64.wrap (((5 * y:Nat):Int) + 5)=((5 * (y + 1):Nat):Int):=A9
      have w2:IntKind.i64.wrap ((u:Int) + 4)=((u + 4:Nat):Int):=A9
      have w3:((u + 4:Nat):Int).tmod 5=(((u + 4) % 5:Nat):Int):=Ji
      have w4:((u + 1:Nat):Int).tmod 5=(((u + 1) % 5:Nat):Int):=Ji
      have w5:IntKind.i64.wrap ((((u + 4) % 5:Nat):Int) + ((5 * y:Nat):Int))=(((u + 4) % 5 + 5 * y:Nat):Int):=A9
      have w6:IntKind.i64.wrap ((((u + 1) % 5:Nat):Int) + ((5 * y:Nat):Int))=(((u + 1) % 5 + 5 * y:Nat):Int):=A9
      (refine es 30 ?_;simp (maxSteps:=2000000) only [d2,w1,w2,w3,w4,w5,w6,wu,Dx,↓Ab,A5,Ad,Nat.reduceLT,Int.reduceLE,Int.reduceLT,Nat.reducePow,Nat.reduceAnd,Nat.reduceOr,Nat.reduceShiftRight,Int.reduceToNat,reduceCtorEq,Nat.reduceAdd,Nat.reduceMul,Nat.reduceSub,Nat.reduceBEq,Nat.reduceEqDiff,Nat.reduceLeDiff,Nat.reduceBneDiff,Nat.reduceBNe,↓reduceIte])
      refine ⟨by omega,by omega,by omega,by omega,by omega,by omega,y + 1,by omega,by omega,?_⟩
      refine Aj.fr [0,1,2,3] [] hx Ax Ak ?_ ?_
      ·simp only [A7,Nat.reduceLT,reduceCtorEq,Nat.reduceEqDiff,Nat.reduceLeDiff,Nat.reduceBEq]
       exact ⟨rfl,rfl⟩
      ·simp only [A7,Nat.reduceLT,reduceCtorEq,Nat.reduceEqDiff,Nat.reduceLeDiff,Nat.reduceBEq]
end Mv
