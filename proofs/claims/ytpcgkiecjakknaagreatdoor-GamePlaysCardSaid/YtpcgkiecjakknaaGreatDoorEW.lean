/- A part. -/
import Derived.Test.YtpcgkiecjakknaaGreatDoorET
import Derived.Test.YtpcgkiecjakknaaGreatDoorEV
set_option linter.all false
set_option maxRecDepth 20000
set_option maxHeartbeats 4000000
namespace Mv
open Go
def pd (p:Nat→BitVec 8) (j:Nat):BitVec 8:=if j < 64 then p j else if j=64 then 1 else if j=135 then 128 else 0
def p1 (p:Nat→BitVec 8) (j:Nat):BitVec 8:=if j < 64 then p j else if j=64 then 1 else 0
abbrev sQ (p:Nat→BitVec 8):V→Hp→Nat→Prop:=fun r H' k'=>r=dg (Xg (Lf (List.replicate 25 0) (pd p)))∧H'=[]∧k'=0
theorem Ank {M:Seat} (ok:OkB M) (p:Nat→BitVec 8) :
 Ag M 311 [.lst 1 64 (fun j=>B (p j))] [] 0 (sQ p):=by
 refine Ab ok.k311 rfl fun x hx=>?_
 refine es 30 ?_
 simp only [Ari,Asi,La3,↓Ad,AX,Ae,Nat.reduceLT,Int.reduceLE,Int.reduceLT,Nat.reducePow,Nat.reduceAnd,Nat.reduceOr,Nat.reduceShiftRight,Int.reduceToNat,reduceCtorEq,Nat.reduceAdd,Nat.reduceMul,Nat.reduceSub,Nat.reduceBEq,Nat.reduceEqDiff,Nat.reduceLeDiff,Nat.reduceBneDiff,Nat.reduceBNe,↓reduceIte]
 refine BE (Amg ok) False [] [] List.nodup_nil B5 rfl B5 trivial trivial ?_
 rintro r H' k' ⟨rfl,rfl,rfl⟩
 refine ⟨⟨by omega,fun h=>h.elim⟩,?_⟩
 have hnum:Bh [] 16 1=[16]:=rfl
 simp only [hnum,LN,V.ren,AV,A6,BS,Ex,Z3,List.append_nil,B3,ne_eq,CL,Nat.reduceEqDiff,reduceCtorEq]
 refine BE (Anv ok) False [] [] List.nodup_nil B5 rfl B5 trivial trivial ?_
 rintro r H' k' ⟨rfl,rfl,rfl⟩
 refine ⟨⟨by omega,fun h=>h.elim⟩,?_⟩
 have hnum2:Bh [] 32 1=[32]:=rfl
 simp only [hnum2,LN,V.ren,AV,A6,BS,Ex,Z3,List.append_nil,B3,ne_eq,CL,Nat.reduceEqDiff,reduceCtorEq]
 simp (maxSteps:=2000000) only [La3,↓Ad,AX,Ae,Nat.reduceLT,Int.reduceLE,Int.reduceLT,Nat.reducePow,Nat.reduceAnd,Nat.reduceOr,Nat.reduceShiftRight,Int.reduceToNat,reduceCtorEq,Nat.reduceAdd,Nat.reduceMul,Nat.reduceSub,Nat.reduceBEq,Nat.reduceEqDiff,Nat.reduceLeDiff,Nat.reduceBneDiff,Nat.reduceBNe,↓reduceIte]
 refine An (σ:=Nat) (fun n=>65≤n∧n≤136) (fun n=>fr 83 [(2,.ptr 0 []),(3,.sl 1 [] 0 24 1),(4,.sl 2 [] 0 25 1),(5,.sl 3 [] 0 n 1)])
  (fun n=>[(0,.ar 1 32 (fun _=>B 0)),(1,.ar 1 24 (ws rc)),(2,.ar 1 25 (fun j=>.int .i64 (tv 24 j:Nat))),(3,.ar 1 n (fun j=>B (p1 p j)))]) (fun _=>4) (fun n=>136 - n) 65 Aa ?_ ?_
 ·refine Ao.fr [0,16,32,176] [] hx AQ Am ?_ ?_
  ·simp only [Bo,Nat.reduceLT,reduceCtorEq,Nat.reduceEqDiff,Nat.reduceLeDiff,Nat.reduceBEq]
  ·simp only [Bo,Nat.reduceLT,reduceCtorEq,Nat.reduceEqDiff,Nat.reduceLeDiff,Nat.reduceBEq,B_0]
   intro i hi
   by_cases h1:i < 64
   ·rw [if_pos h1,if_neg Aa,p1,if_pos h1]
    exact (QA _ _ _ _ _).mpr rfl
   ·have:i=64:=Aa
    subst this
    rw [if_neg Aa,if_pos Aa]
    exact (QA _ _ _ 1 1).mpr rfl
 ·intro n ⟨hn,hn2⟩
  by_cases h136:n=136
  ·subst h136
   have d0:Int.tmod 136 136=0:=rfl
   have d1:decide ((0:Int)=0)=true:=rfl
   have w0:IntKind.i64.wrap (136 - 1)=135:=rfl
   have b128:V.int .u8 128=B 128:=rfl
   have hp:∀ j,(if j=135 then p1 p 135 ^^^ 128 else p1 p j)=pd p j:=by
    intro j
    unfold p1 pd
    by_cases h1:j=135
    ·subst h1;simp
    ·rw [if_neg h1,if_neg h1]
   (refine es 5 ?_;simp (maxSteps:=2000000) only [d0,d1,La3,↓Ad,AX,Ae,Nat.reduceLT,Int.reduceLE,Int.reduceLT,Nat.reducePow,Nat.reduceAnd,Nat.reduceOr,Nat.reduceShiftRight,Int.reduceToNat,reduceCtorEq,Nat.reduceAdd,Nat.reduceMul,Nat.reduceSub,Nat.reduceBEq,Nat.reduceEqDiff,Nat.reduceLeDiff,Nat.reduceBneDiff,Nat.reduceBNe,↓reduceIte])
   refine ⟨by omega,?_⟩
   (refine es 30 ?_;simp (maxSteps:=2000000) only [d0,d1,w0,b128,hp,La3,↓Ad,AX,Ae,Nat.reduceLT,Int.reduceLE,Int.reduceLT,Nat.reducePow,Nat.reduceAnd,Nat.reduceOr,Nat.reduceShiftRight,Int.reduceToNat,reduceCtorEq,Nat.reduceAdd,Nat.reduceMul,Nat.reduceSub,Nat.reduceBEq,Nat.reduceEqDiff,Nat.reduceLeDiff,Nat.reduceBneDiff,Nat.reduceBNe,↓reduceIte])
   refine An (σ:=Nat) (fun r=>r≤1) (fun r=>fr 83 [(2,.ptr 0 []),(3,.sl 1 [] 0 24 1),(4,.sl 2 [] 0 25 1),(5,.sl 3 [] 0 136 1),(6,.ptr 4 []),(7,.int .i64 (136 * r:Nat))])
    (fun r=>[(0,.ar 1 32 (fun _=>B 0)),(1,.ar 1 24 (ws rc)),(2,.ar 1 25 (fun j=>.int .i64 (tv 24 j:Nat))),(3,.ar 1 136 (fun j=>B (pd p j))),(4,.ar 1 25 (ws (if r=0 then List.replicate 25 0 else Lf (List.replicate 25 0) (pd p))))]) (fun _=>5) (fun r=>1 - r) 0 Aa ?_ ?_
   ·refine Ao.fr [0,1,2,3,212] [] hx AQ Am ?_ ?_
    ·simp only [Bo,Nat.reduceLT,reduceCtorEq,Nat.reduceEqDiff,Nat.reduceLeDiff,Nat.reduceBEq]
     rfl
    ·simp only [Bo,Nat.reduceLT,reduceCtorEq,Nat.reduceEqDiff,Nat.reduceLeDiff,Nat.reduceBEq,W_0]
     intro j hj
     rw [List.getD,List.getElem?_replicate,if_pos hj];rfl
   ·intro r hr
    by_cases h1:r=1
    ·subst h1
     have d2:decide (((136 * 1:Nat):Int) < 136)=false:=rfl
     (refine es 30 ?_;simp (maxSteps:=2000000) only [d2,if_neg (Nat.one_ne_zero),La3,↓Ad,AX,Ae,Nat.reduceLT,Int.reduceLE,Int.reduceLT,Nat.reducePow,Nat.reduceAnd,Nat.reduceOr,Nat.reduceShiftRight,Int.reduceToNat,reduceCtorEq,Nat.reduceAdd,Nat.reduceMul,Nat.reduceSub,Nat.reduceBEq,Nat.reduceEqDiff,Nat.reduceLeDiff,Nat.reduceBneDiff,Nat.reduceBNe,↓reduceIte])
     generalize hS:Lf (List.replicate 25 0) (pd p)=S
     refine An (σ:=Nat) (fun i=>i≤32) (fun i=>fr 83 [(2,.ptr 2 []),(9,.ptr 0 []),(6,.ptr 1 []),(10,.int .i64 i)])
      (fun i=>[(0,.ar 1 32 (fun j=>B (if j < i then (Xg S).at j else 0))),(1,.ar 1 25 (ws S)),(2,.ar 1 32 (fun _=>B 0))]) (fun _=>3) (fun i=>32 - i) 0 Aa ?_ ?_
     ·refine Ao.fr [69,4,0] [] hx AQ Am ?_ ?_
      ·simp only [Bo,Nat.reduceLT,reduceCtorEq,Nat.reduceEqDiff,Nat.reduceLeDiff,Nat.reduceBEq]
      ·simp only [Bo,Nat.reduceLT,reduceCtorEq,Nat.reduceEqDiff,Nat.reduceLeDiff,Nat.reduceBEq,B_0]
       exact fun _ _=>by rw [if_neg Aa]
     ·intro i hi
      by_cases h32:i=32
      ·subst h32
       have d3:decide (((32:Nat):Int) < 32)=false:=rfl
       (refine es 30 ?_;simp (maxSteps:=2000000) only [d3,La3,↓Ad,AX,Ae,Nat.reduceLT,Int.reduceLE,Int.reduceLT,Nat.reducePow,Nat.reduceAnd,Nat.reduceOr,Nat.reduceShiftRight,Int.reduceToNat,reduceCtorEq,Nat.reduceAdd,Nat.reduceMul,Nat.reduceSub,Nat.reduceBEq,Nat.reduceEqDiff,Nat.reduceLeDiff,Nat.reduceBneDiff,Nat.reduceBNe,↓reduceIte])
       refine Ar.mk hx [] [] (dg (Xg S)) [] 0 Am ?_ ?_ trivial ?_
       rotate_left 2
       ·exact ⟨by rw [hS],rfl,rfl⟩
       ·simp only [SD,↓Ad,ex,Ro,AJ,AX,Ae,Nat.reduceLT,Int.reduceLE,Int.reduceLT,Nat.reducePow,Nat.reduceAnd,Nat.reduceOr,Nat.reduceShiftRight,Int.reduceToNat,reduceCtorEq,Nat.reduceAdd,Nat.reduceMul,Nat.reduceSub,Nat.reduceBEq,Nat.reduceEqDiff]
       ·simp only [Rs,↓Ad,ex,Ro,AJ,AX,Ae,Nat.reduceLT,Int.reduceLE,Int.reduceLT,Nat.reducePow,Nat.reduceAnd,Nat.reduceOr,Nat.reduceShiftRight,Int.reduceToNat,reduceCtorEq,Nat.reduceAdd,Nat.reduceMul,Nat.reduceSub,Nat.reduceBEq,Nat.reduceEqDiff,Nat.reduceLeDiff]
        intro j hj
        rw [if_pos hj]
      ·have d3:decide ((i:Int) < 32)=true:=decide_eq_true Aa
       have w1:IntKind.i64.wrap ((i:Int) + 1)=((i + 1:Nat):Int):=AZ
       have w2:IntKind.i64.wrap ((i:Int).tdiv 8)=((i / 8:Nat):Int):=by rw [Int.tdiv_eq_ediv_of_nonneg Aa,AY Aa];omega
       have w4:(i:Int).tmod 8=((i % 8:Nat):Int):=by rw [Int.tmod_eq_emod_of_nonneg Aa];omega
       have w5:IntKind.i64.wrap (8 * ((i % 8:Nat):Int))=((8 * (i % 8):Nat):Int):=AZ
       have w6:IntKind.u64.wrap ((8 * (i % 8):Nat):Int)=((8 * (i % 8):Nat):Int):=EX Aa
       (refine es 30 ?_;simp (maxSteps:=2000000) only [d3,w1,w2,w4,w5,w6,La3,↓Ad,AX,Ae,Nat.reduceLT,Int.reduceLE,Int.reduceLT,Nat.reducePow,Nat.reduceAnd,Nat.reduceOr,Nat.reduceShiftRight,Int.reduceToNat,reduceCtorEq,Nat.reduceAdd,Nat.reduceMul,Nat.reduceSub,Nat.reduceBEq,Nat.reduceEqDiff,Nat.reduceLeDiff,Nat.reduceBneDiff,Nat.reduceBNe,↓reduceIte])
       refine ⟨by omega,⟨by omega,by omega⟩,by omega,by omega,by omega,⟨by omega,by omega⟩,by omega,i + 1,by omega,by omega,?_⟩
       refine Ao.fr [0,1,2] [] hx AQ Am ?_ ?_
       ·simp only [Bo,Nat.reduceLT,reduceCtorEq,Nat.reduceEqDiff,Nat.reduceLeDiff,Nat.reduceBEq]
       ·simp only [Bo,Nat.reduceLT,reduceCtorEq,Nat.reduceEqDiff,Nat.reduceLeDiff,Nat.reduceBEq]
        intro j hj
        by_cases hji:j=i
        ·subst hji
         rw [if_pos rfl,if_pos Aa,Xg,Dg.at_mk' _ _ hj]
        ·rw [if_neg hji]
         by_cases h2:j < i
         ·rw [if_pos h2,if_pos Aa]
         ·rw [if_neg h2,if_neg Aa]
    ·have h0:r=0:=Aa
     subst h0
     have d2:decide (((136 * 0:Nat):Int) < 136)=true:=rfl
     (refine es 30 ?_;simp (maxSteps:=2000000) only [d2,La3,↓Ad,AX,Ae,Nat.reduceLT,Int.reduceLE,Int.reduceLT,Nat.reducePow,Nat.reduceAnd,Nat.reduceOr,Nat.reduceShiftRight,Int.reduceToNat,reduceCtorEq,Nat.reduceAdd,Nat.reduceMul,Nat.reduceSub,Nat.reduceBEq,Nat.reduceEqDiff,Nat.reduceLeDiff,Nat.reduceBneDiff,Nat.reduceBNe,↓reduceIte])
     refine An (σ:=Nat) (fun i=>i≤136) (fun i=>fr 83 [(2,.ptr 0 []),(3,.sl 1 [] 0 24 1),(4,.sl 2 [] 0 25 1),(5,.sl 3 [] 0 136 1),(6,.ptr 4 []),(7,.int .i64 0),(8,.int .i64 i)])
      (fun i=>[(0,.ar 1 32 (fun _=>B 0)),(1,.ar 1 24 (ws rc)),(2,.ar 1 25 (fun j=>.int .i64 (tv 24 j:Nat))),(3,.ar 1 136 (fun j=>B (pd p j))),(4,.ar 1 25 (fun j=>W (Qg (List.replicate 25 0) (pd p) (i / 8) (i % 8) j)))]) (fun _=>5) (fun i=>136 - i) 0 Aa ?_ ?_
     ·refine Ao.fr [0,1,2,3,4] [] hx AQ Am ?_ ?_
      ·simp only [Bo,Nat.reduceLT,reduceCtorEq,Nat.reduceEqDiff,Nat.reduceLeDiff,Nat.reduceBEq]
      ·simp only [Bo,Nat.reduceLT,reduceCtorEq,Nat.reduceEqDiff,Nat.reduceLeDiff,Nat.reduceBEq]
       exact fun j _=>by rw [Nat.zero_div,Nat.zero_mod,Aej]
     ·intro i hi
      by_cases h136:i=136
      ·subst h136
       have d3:decide (((136:Nat):Int) < 136)=false:=rfl
       (refine es 30 ?_;simp (maxSteps:=2000000) only [d3,La3,↓Ad,AX,Ae,Nat.reduceLT,Int.reduceLE,Int.reduceLT,Nat.reducePow,Nat.reduceAnd,Nat.reduceOr,Nat.reduceShiftRight,Int.reduceToNat,reduceCtorEq,Nat.reduceAdd,Nat.reduceMul,Nat.reduceSub,Nat.reduceBEq,Nat.reduceEqDiff,Nat.reduceLeDiff,Nat.reduceBneDiff,Nat.reduceBNe,↓reduceIte])
       have w136:IntKind.i64.wrap (0 + 136)=((136 * 1:Nat):Int):=rfl
       refine PE [1,2] (Am0 ok (mix (List.replicate 25 0) (pd p))) ?_ rfl (by simp only [AC,Nq,W,implies_true]) ?_
       ·simp only [Bo,Nat.reduceLT,reduceCtorEq,Nat.reduceEqDiff,Nat.reduceLeDiff,Nat.reduceBEq]
        exact fun j hj=>(ZI _ _ _ hj).symm
       simp only [w136,La3,↓Ad,AX,Ae,Nat.reduceLT,Int.reduceLE,Int.reduceLT,Nat.reducePow,Nat.reduceAnd,Nat.reduceOr,Nat.reduceShiftRight,Int.reduceToNat,reduceCtorEq,Nat.reduceAdd,Nat.reduceMul,Nat.reduceSub,Nat.reduceBEq,Nat.reduceEqDiff,Nat.reduceLeDiff,Nat.reduceBneDiff,Nat.reduceBNe,↓reduceIte]
       refine ⟨1,by omega,by omega,?_⟩
       refine Ao.fr [0,1,2,3,4] [] hx AQ Am ?_ ?_
       ·simp only [Bo,Nat.reduceLT,reduceCtorEq,Nat.reduceEqDiff,Nat.reduceLeDiff,Nat.reduceBEq]
        rfl
       ·simp only [Bo,Nat.reduceLT,reduceCtorEq,Nat.reduceEqDiff,Nat.reduceLeDiff,Nat.reduceBEq,if_neg (Nat.one_ne_zero)]
        exact fun _ _=>rfl
      ·have d3:decide ((i:Int) < 136)=true:=decide_eq_true Aa
       have w1:IntKind.i64.wrap ((i:Int) + 1)=((i + 1:Nat):Int):=AZ
       have w2:IntKind.i64.wrap ((i:Int).tdiv 8)=((i / 8:Nat):Int):=by rw [Int.tdiv_eq_ediv_of_nonneg Aa,AY Aa];omega
       have w3:IntKind.i64.wrap (0 + (i:Int))=(i:Int):=AZ
       have w4:(i:Int).tmod 8=((i % 8:Nat):Int):=by rw [Int.tmod_eq_emod_of_nonneg Aa];omega
       have w5:IntKind.i64.wrap (8 * ((i % 8:Nat):Int))=((8 * (i % 8):Nat):Int):=AZ
       have w6:IntKind.u64.wrap ((8 * (i % 8):Nat):Int)=((8 * (i % 8):Nat):Int):=EX Aa
       (refine es 30 ?_;simp (maxSteps:=2000000) only [d3,w1,w2,w3,w4,w5,w6,La3,↓Ad,AX,Ae,Nat.reduceLT,Int.reduceLE,Int.reduceLT,Nat.reducePow,Nat.reduceAnd,Nat.reduceOr,Nat.reduceShiftRight,Int.reduceToNat,reduceCtorEq,Nat.reduceAdd,Nat.reduceMul,Nat.reduceSub,Nat.reduceBEq,Nat.reduceEqDiff,Nat.reduceLeDiff,Nat.reduceBneDiff,Nat.reduceBNe,↓reduceIte])
       refine ⟨by omega,⟨by omega,by omega⟩,by omega,by omega,⟨by omega,by omega⟩,by omega,by omega,by omega,by omega,⟨by omega,by omega⟩,by omega,i + 1,by omega,by omega,?_⟩
       have e8:∀ j,(if j=i / 8 then Qg (List.replicate 25 0) (pd p) (i / 8) (i % 8) (i / 8) ^^^ BitVec.setWidth 64 (pd p i) <<< (8 * (i % 8)) else Qg (List.replicate 25 0) (pd p) (i / 8) (i % 8) j)=Qg (List.replicate 25 0) (pd p) ((i + 1) / 8) ((i + 1) % 8) j:=by
        intro j
        have e9:pd p i=pd p (8 * (i / 8) + i % 8):=by congr 1;omega
        rw [e9,Aim]
        by_cases h7:i % 8=7
        ·have ea:(i + 1) / 8=i / 8 + 1:=Aa
         have eb:(i + 1) % 8=0:=Aa
         rw [h7,ea,eb,Aez]
        ·have ea:(i + 1) / 8=i / 8:=Aa
         have eb:(i + 1) % 8=i % 8 + 1:=Aa
         rw [ea,eb]
       refine Ao.fr [0,1,2,3,4] [] hx AQ Am ?_ ?_
       ·simp only [Bo,Nat.reduceLT,reduceCtorEq,Nat.reduceEqDiff,Nat.reduceLeDiff,Nat.reduceBEq]
       ·simp only [Bo,Nat.reduceLT,reduceCtorEq,Nat.reduceEqDiff,Nat.reduceLeDiff,Nat.reduceBEq,e8]
  ·have e1:((n:Nat):Int).tmod 136=n:=by rw [Int.tmod_eq_emod_of_nonneg Aa];omega
   have d0:decide ((n:Int)=0)=false:=decide_eq_false Aa
   (refine es 30 ?_;simp (maxSteps:=2000000) only [e1,d0,La3,↓Ad,AX,Ae,Nat.reduceLT,Int.reduceLE,Int.reduceLT,Nat.reducePow,Nat.reduceAnd,Nat.reduceOr,Nat.reduceShiftRight,Int.reduceToNat,reduceCtorEq,Nat.reduceAdd,Nat.reduceMul,Nat.reduceSub,Nat.reduceBEq,Nat.reduceEqDiff,Nat.reduceLeDiff,Nat.reduceBneDiff,Nat.reduceBNe,↓reduceIte])
   refine ⟨by omega,by omega,n + 1,by omega,by omega,?_⟩
   refine Ao.fr [0,1,2,100] [] hx AQ Am ?_ ?_
   ·simp only [Bo,Nat.reduceLT,reduceCtorEq,Nat.reduceEqDiff,Nat.reduceLeDiff,Nat.reduceBEq]
   ·simp only [Bo,Nat.reduceLT,reduceCtorEq,Nat.reduceEqDiff,Nat.reduceLeDiff,Nat.reduceBEq]
    intro i hi
    by_cases h1:i < n
    ·rw [if_pos h1];exact (QA _ _ _ _ _).mpr rfl
    ·have:i=n:=Aa
     subst this
     have e2:p1 p i=0:=by rw [p1,if_neg Aa,if_neg Aa]
     rw [if_neg h1,e2]
     simp only [ite_self]
     exact (QA _ _ _ 0 0).mpr rfl
theorem Ar0 (n:Nat):Bh [] n 1=[n]:=rfl
def two (a b:Dg) (j:Nat):BitVec 8:=if j < 32 then a.at j else b.at (j - 32)
theorem Arb (a b:Dg):pd (two a b)=pad a b:=by
 funext j
 unfold pd two pad
 repeat' split
 all_goals first | rfl | omega
theorem Akb {M:Seat} (ok:OkB M) (a b:Dg) :
 Ag M 206 [dg a,dg b] [] 0 (Q3 (dg (Ch a b)) [] 0):=by
 refine Ab ok.k206 rfl fun x hx=>?_
 refine es 30 ?_
 simp only [Asa,Asr,dg,La3,↓Ad,AX,Ae,seval]
 refine JL [144] (Ank ok (two a b)) ?_ rfl ?_
 ·simp only [Bo,seval]
  intro j hj
  unfold two
  by_cases h1:j < 32
  ·simp only [if_pos h1,Nat.not_lt_zero,if_false,Nat.sub_zero]
   exact (QA _ _ _ _ _).mpr rfl
  ·simp only [if_neg h1]
   exact (QA _ _ _ _ _).mpr rfl
 simp only [A6,dg,La3,↓Ad,AX,Ae,seval]
 refine Ar.mk hx [] [] (dg (Ch a b)) [] 0 Am ?_ ?_ trivial ⟨rfl,rfl,rfl⟩
 ·simp only [SD,↓Ad,ex,Ro,AJ,AX,Ae,seval]
 ·simp only [Rs,↓Ad,ex,Ro,AJ,AX,Ae,seval]
  intro j _
  rw [Arb];rfl
theorem Anq {M:Seat} (ok:OkB M) :
 Ag M 205 [] [] 0 (Q3 (.sl 0 [] 0 17 32) [(0,.ar 32 17 (fun j=>dg (At j)))] 1):=by
 refine Ab ok.k205 rfl fun x hx=>?_
 refine es 30 ?_
 simp only [Asw,Arx,La3,↓Ad,AX,Ae,seval]
 repeat refine sd ?_
 refine An (σ:=Nat) (fun i=>i≤16) (fun i=>fr 21 [(1,.sl 0 [] 0 (i + 1) 32),(2,.int .i64 i)])
  (fun i=>[(0,.ar 32 (i + 1) (fun j=>dg (At j)))]) (fun _=>1) (fun i=>16 - i) 0 Aa ?_ ?_
 ·refine Ao.fr [16] [] hx AQ Am ?_ ?_
  ·simp only [Bo,seval]
  ·simp only [Bo,seval,Ws]
   intro j hj
   have:j=0:=Aa
   subst this;rfl
 ·intro i hi
  by_cases h16:i=16
  ·subst h16
   have d0:decide (((16:Nat):Int) < 16)=false:=rfl
   (refine es 30 ?_;simp (maxSteps:=2000000) only [d0,La3,↓Ad,AX,Ae,seval])
   refine Ar.mk hx [0] [] (.sl 0 [] 0 17 32) [(0,.ar 32 17 (fun j=>dg (At j)))] 1 Am ?_ ?_ ?_ ⟨rfl,rfl,rfl⟩
   ·simp only [SD,↓Ad,ex,Ro,AJ,AX,Ae,seval]
   ·simp only [Rs,↓Ad,ex,Ro,AJ,AX,Ae,seval]
   ·simp only [Bo,seval]
  ·have d0:decide ((i:Int) < 16)=true:=decide_eq_true Aa
   have w1:IntKind.i64.wrap ((i:Int) + 1)=((i + 1:Nat):Int):=AZ
   (refine es 30 ?_;simp (maxSteps:=2000000) only [d0,w1,La3,↓Ad,AX,Ae,seval])
   repeat refine sd ?_
   refine ⟨_,_,AE (Akb ok _ _) ⟨(AU _ _ _ _ _).mpr rfl,(AU _ _ _ _ _).mpr rfl,trivial⟩ rfl ⟨rfl,rfl⟩,?_⟩
   simp only [La3,↓Ad,AX,Ae,seval]
   repeat refine sd ?_
   refine ⟨i + 1,by omega,by omega,?_⟩
   refine Ao.fr [417] [] hx AQ Am ?_ ?_
   ·simp only [Bo,seval]
   ·simp only [Bo,seval]
    intro j hj
    by_cases h1:j < i + 1
    ·rw [if_pos h1];exact (AU _ _ _ _ _).mpr rfl
    ·have:j=i + 1:=Aa
     subst this
     rw [if_neg h1,if_pos Aa]
     exact (AU _ _ _ _ _).mpr rfl
def Aie:LC:=(sr [aB 2 32] (sr [kl 6 418 [],mt 3 6] (sr [mt 7 3,mt 8 0,kl 9 419 [(.t 7),(.t 8)]] (sr [mt 11 3,kl 12 420 [(.t 11)],mt 10 12,ee 13 10 0,ee 14 10 1,
  aB 4 32,sb 32 4 13,mt 5 14] (sr [la 15 32 4,sb 32 2 15] .ret)))))
def Agn:LF:=⟨Aie,1,0,16,[.cell 2 true 32]⟩
def Aih:LC:=(sr [A1 0 (.mv (.c .nilp))] (sr [A1 1 (.build (.st (.cons (.ar 25 (.int .u64)) (.cons .slice .nil))) []),
  bX 2 1,mt 0 2] .ret))
def Ah6:LF:=⟨Aih,0,0,3,[.tmp 0]⟩
def Afd:LC:=(sr [mn 4] (.seq (sr [mt 5 0,A1 6 (.eq false true .ptr (.t 5) (.c .nilp))] (.cond (.t 6) (sr [A1 7 (.mkif 74 (cI 1)),mt 4 7] .ret) .skip)) (sr [mt 8 0,mt 9 0,nc 10 9,fa 11 25 10,lb 12 1 11,mt 13 1,
  aP 14 1 1 12 13,nc 15 8,fa 16 25 15,sb 1 16 14] (.seq (.block 0 (.loop (.seq (sr [mt 17 0,nc 18 17,fa 19 25 18,lb 20 1 19,
  lN 21 0 20,aI 22 .geq 21 136]
 (Dd 22 0)) (.block 1 (.seq (.regd [⟨1,0,mt 24 0⟩,⟨2,1,nc 25 24⟩,⟨3,3,fa 26 0 25⟩,⟨4,7,la 27 25 26⟩,⟨5,0,mt 28 0⟩,⟨6,16,nc 29 28⟩,⟨7,48,fa 30 25 29⟩,⟨8,112,lb 31 1 30⟩,⟨9,240,A1 32 (.slsl 1 (.t 31) none (some (cI 136)))⟩,⟨10,511,kl 33 318 [(.t 27),(.t 32)]⟩,⟨0,0,mt 23 0⟩,⟨11,2047,nc 34 23⟩,⟨12,4095,fa 35 0 34⟩,⟨13,8191,sb 25 35 33⟩]) (.reg [mt 36 0,mt 37 0,nc 38 37,fa 39 25 38,lb 40 1 39,A1 41 (.slsl 1 (.t 40) (some (cI 136)) none),kl 42 277 [(.t 41)],nc 43 36,fa 44 25 43,sb 1 44 42])))))) (sr [mn 4] .ret)))))
def Air:LF:=⟨Afd,2,0,45,[.tmp 4]⟩
def Ahn:LC:=(sr [aB 2 32,mn 3] (.seq (sr [mt 5 0,A1 6 (.eq false true .ptr (.t 5) (.c .nilp))] (.cond (.t 6) (sr [A1 7 (.build (.ar 32 (.int .u8)) []),A1 8 (.mkif 74 (cI 1)),sb 32 2 7,mt 3 8] .ret) .skip)) (sr [A1 9 (.mksl 1 1 (.int .u8) (cI 136) (cI 136)),mt 4 9] (sr [mt 10 4,mt 11 0,nc 12 11,fa 13 25 12,lb 14 1 13,A1 15 (.copy 1 (.t 10) (.t 14))] (sr [mt 16 4,mt 17 0,nc 18 17,fa 19 25 18,lb 20 1 19,
  lN 21 0 20,ia 22 1 16 21,lb 23 1 22,A1 24 (.ari .xor (.t 23) (.c (.int .u8 1))),ia 25 1 16 21,sb 1 25 24] (sr [mt 26 4,
  iJ 27 1 26 135,lb 28 1 27,A1 29 (.ari .xor (.t 28) (.c (.int .u8 128))),
  iJ 30 1 26 135,sb 1 30 29] (sr [mt 31 0,nc 32 31,fa 33 0 32,la 34 25 33,mt 35 4,kl 36 318 [(.t 34),(.t 35)],kl 37 317 [(.t 36)],sb 32 2 37,mn 3] .ret)))))))
def Agp:LF:=⟨Ahn,1,0,38,[.cell 2 true 32,.tmp 3]⟩
def c68:LC:=(sr [A1 0 (.mv (.c .nilp))] (sr [A1 5 (.mkmap (.ar 32 (.int .u8)) (.ar 64 (.int .u8))),A1 6 (.mkmap (.ar 32 (.int .u8)) (.ar 64 (.int .u8))),A1 7 (.build (.st (.cons .map (.cons (.ar 64 (.int .u8)) (.cons (.ar 64 (.int .u8)) (.cons .bool .nil))))) [(.f 0,1,(.t 6))]),
  bX 8 7,A1 9 (.mkmap (.ar 32 (.int .u8)) .bool),A1 10 (.build (.st (.cons .map (.cons .ptr (.cons .map (.cons .slice .nil))))) [(.f 0,1,(.t 5)),(.f 1,1,(.t 8)),(.f 2,1,(.t 9))]),
  bX 11 10,mt 1 11] (.seq (sr [mI 12 0] (.block 0 (.loop (sr [aI 13 .lss 12 16] (.seq (Dd 13 0) (.seq (.block 1 (sr [mt 14 12,mt 2 14] (sr [mt 16 2,kl 17 197 [(.t 16)],mt 15 17,ee 18 15 0,ee 19 15 1,
  aB 3 32,sb 32 3 18,mt 4 19] (.reg [mt 20 1,la 21 32 3,la 22 32 3,kl 23 213 [(.t 21),(.t 22)],kl 24 212 [(.t 20),(.t 23)]])))) (.reg [aI 25 .add 12 1,mt 12 25]))))))) (sr [mt 26 1,mt 0 26] .ret))))
def f68:LF:=⟨c68,0,0,27,[.tmp 0]⟩
def Af6:LC:=(sr [bX 3 1,
 aB 4 32,mn 5] (.seq (sr [mt 7 0,A1 8 (.eq false true .ptr (.t 7) (.c .nilp))] (.cond (.t 8) (sr [A1 9 (.build (.ar 32 (.int .u8)) []),A1 10 (.mkif 74 (cI 1)),sb 32 4 9,mt 5 10] .ret) .skip)) (sr [A1 11 (.slarr 64 1 (.t 3) none none),kl 12 319 [(.t 11)],
  aB 6 32,sb 32 6 12] (.seq (.regd [⟨0,0,mt 13 0⟩,⟨1,1,nc 14 13⟩,⟨2,3,fa 15 0 14⟩,⟨3,7,lb 16 1 15⟩,⟨4,0,la 17 32 6⟩,⟨5,0,la 18 64 3⟩,⟨6,63,A0 (.mupd (.ar 32 1 false .int) (.t 16) (.t 17) (.t 18))⟩]) (.seq (.regd [⟨0,0,mt 19 0⟩,⟨1,1,nc 20 19⟩,⟨2,3,fa 21 1 20⟩,⟨3,7,lb 22 1 21⟩,⟨4,0,la 23 32 6⟩,⟨5,0,la 24 64 3⟩,⟨6,63,kl 25 320 [(.t 22),(.t 23),(.t 24)]⟩]) (sr [la 26 32 6,sb 32 4 26,mn 5] .ret))))))
def Aet:LF:=⟨Af6,2,0,27,[.cell 4 true 32,.tmp 5]⟩
def Aeo:LC:=(sr [bX 2 0,
 bX 3 1,
 aB 4 64] (sr [aB 5 64] (.seq (.regd [⟨0,0,A1 6 (.slarr 64 1 (.t 5) none (some (cI 32)))⟩,⟨1,0,A1 7 (.slarr 32 1 (.t 2) none none)⟩,⟨2,3,A1 8 (.copy 1 (.t 6) (.t 7))⟩]) (.seq (.regd [⟨0,0,A1 9 (.slarr 64 1 (.t 5) (some (cI 32)) none)⟩,⟨1,0,A1 10 (.slarr 32 1 (.t 3) none none)⟩,⟨2,3,A1 11 (.copy 1 (.t 9) (.t 10))⟩]) (sr [la 12 64 5,sb 64 4 12] .ret)))))
def f213:LF:=⟨Aeo,2,0,13,[.cell 4 true 64]⟩
def Uf:LC:=(sr [bX 4 1,
 bX 5 2] (.seq (.regd [⟨0,0,mt 9 0⟩,⟨1,1,nc 10 9⟩,⟨2,3,fa 11 0 10⟩,⟨3,7,lb 12 1 11⟩,⟨4,0,la 13 32 4⟩,⟨5,31,A1 14 (.mlook (.ar 32 1 false .int) (.ar 64 (.int .u8)) true (.t 12) (.t 13))⟩,⟨6,63,mt 8 14⟩,⟨7,127,ee 15 8 0⟩,⟨9,0,aB 6 64⟩,⟨10,511,sb 64 6 15⟩,⟨8,127,ee 16 8 1⟩,⟨11,2047,mt 7 16⟩]) (sr [mt 17 7,A1 18 (.un .not (.t 17))] (.cond (.t 18) (.regd [⟨0,0,mt 19 0⟩,⟨1,1,nc 20 19⟩,⟨2,3,fa 21 0 20⟩,⟨3,7,lb 22 1 21⟩,⟨4,0,la 23 32 4⟩,⟨5,0,la 24 64 5⟩,⟨6,63,A0 (.mupd (.ar 32 1 false .int) (.t 22) (.t 23) (.t 24))⟩]) (sr [la 25 64 6,la 26 64 5,A1 27 (.eq true false (.ar 64 1 false .int) (.t 25) (.t 26)),mt 28 27,mg 29 28 true 0,A2 30 28 true (.nilc (.t 29)),A2 31 28 true (.fadr 129 (.t 30)),A2 32 28 true (.load false 1 (.t 31)),A2 33 28 true (.un .not (.t 32)),
  Fq 34 28 33] (.cond (.t 34) (.regd [⟨0,0,mt 35 0⟩,⟨3,0,la 38 64 6⟩,⟨5,3,nc 40 35⟩,⟨6,7,fa 41 1 40⟩,⟨7,15,sb 64 41 38⟩,⟨1,0,mt 36 0⟩,⟨4,0,la 39 64 5⟩,⟨8,127,nc 42 36⟩,⟨9,255,fa 43 65 42⟩,⟨10,511,sb 64 43 39⟩,⟨2,0,mt 37 0⟩,⟨11,2047,nc 44 37⟩,⟨12,4095,fa 45 129 44⟩,⟨13,8191,A0 (.store 1 (.t 45) (.c (.bool true)))⟩]) .skip))))))
def Tq:LF:=⟨Uf,3,0,46,[]⟩
def Agh:LC:=(sr [bX 3 1,
 aB 4 64,mn 5] (.seq (sr [mt 8 0,A1 9 (.eq false true .ptr (.t 8) (.c .nilp))] (.cond (.t 9) (sr [A1 10 (.build (.ar 64 (.int .u8)) []),A1 11 (.mkif 74 (cI 1)),sb 64 4 10,mt 5 11] .ret) .skip)) (.seq (.seq (.regd [⟨0,0,mt 12 0⟩,⟨1,1,nc 13 12⟩,⟨2,3,fa 14 2 13⟩,⟨3,7,lb 15 1 14⟩,⟨4,0,la 16 32 3⟩,⟨5,31,A1 17 (.mlook (.ar 32 1 false .int) .bool false (.t 15) (.t 16))⟩,⟨6,63,A1 18 (.un .not (.t 17))⟩]) (.cond (.t 18) (.seq (.regd [⟨0,0,mt 19 0⟩,⟨1,1,nc 20 19⟩,⟨2,3,fa 21 2 20⟩,⟨3,7,lb 22 1 21⟩,⟨4,0,la 23 32 3⟩,⟨5,31,A0 (.mupd (.ar 32 1 false .int) (.t 22) (.t 23) (.c (.bool true)))⟩])
 (.regd [⟨1,0,mt 25 0⟩,⟨2,1,nc 26 25⟩,⟨3,3,fa 27 3 26⟩,⟨4,7,lb 28 1 27⟩,⟨5,0,la 29 32 3⟩,⟨6,16,A1 30 (.bsl 32 1 (.ar 32 (.int .u8)) [(.i 32 0,32,(.t 29))])⟩,⟨7,63,aP 31 32 32 28 30⟩,⟨0,0,mt 24 0⟩,⟨8,255,nc 32 24⟩,⟨9,511,fa 33 3 32⟩,⟨10,1023,sb 1 33 31⟩])) .skip)) (.seq (.regd [⟨0,0,mt 35 0⟩,⟨1,1,nc 36 35⟩,⟨2,3,fa 37 0 36⟩,⟨3,7,lb 38 1 37⟩,⟨4,0,la 39 32 3⟩,⟨5,31,A1 40 (.mlook (.ar 32 1 false .int) (.ar 64 (.int .u8)) true (.t 38) (.t 39))⟩,⟨6,63,mt 34 40⟩,⟨7,127,ee 41 34 0⟩,⟨9,0,aB 6 64⟩,⟨10,511,sb 64 6 41⟩,⟨8,127,ee 42 34 1⟩,⟨11,2047,mt 7 42⟩]) (.seq (sr [mt 43 7,A1 44 (.un .not (.t 43))] (.cond (.t 44) (sr [A1 45 (.build (.ar 64 (.int .u8)) []),A1 46 (.mkif 74 (cI 14)),sb 64 4 45,mt 5 46] .ret) .skip)) (sr [la 47 64 6,sb 64 4 47,mn 5] .ret))))))
def Aha:LF:=⟨Agh,2,0,48,[.cell 4 true 64,.tmp 5]⟩
variable {M:Seat}
structure OkH (M:Seat):Prop where
 k319:Au M 319 Agn=true
 k418:Au M 418 Ah6=true
 k419:Au M 419 Air=true
 k420:Au M 420 Agp=true
def Jf (p:Nat→BitVec 8) (j:Nat):BitVec 8:=if j < 64 then p j else if j=64 then 1 else if j=135 then 128 else 0
def FP (s:List (BitVec 64)) (rest:V):V:=.st 26 (.fcons 0 (.ar 1 25 (ws s)) (.fcons 25 rest .fnil))
def Zn:List (BitVec 64):=List.replicate 25 0
theorem Adg (j:Nat):Zn.getD j 0=0:=by
 simp only [Zn,List.getD,List.getElem?_replicate];split <;> rfl
def DW (p:Nat→BitVec 8):Dg:=Xg (Lf Zn (Jf p))
theorem Ss (ok:OkH M):Ag M 418 [] [] 0 (Q3 (.ptr 0 []) [(0,FP Zn .nils)] 1):=by
 refine Ab ok.k418 rfl fun x hx=>?_
 refine es 2000 ?_;(simp only [Ah6,Aih,LZ,seval])
 refine Rv hx [32] (.ptr 0 []) ([(0,FP Zn .nils)]) 1 ?_
 simp only [FP,LY,seval]
 exact fun i _=>(Adg i).symm
theorem SA (ok:OkH M) (s:List (BitVec 64)) (p:Nat→BitVec 8) :
 Ag M 419 [.ptr 0 [],.lst 1 64 (fun j=>B (p j))] [(0,FP s .nils)] 1 (Q3 .nili [(0,FP s (.sl 1 [] 0 64 1)),(1,.ar 1 64 (fun j=>B (p j)))] 2):=by
 refine Ab ok.k419 rfl fun x hx=>?_
 refine es 2000 ?_;(simp only [Air,Afd,FP,LZ,seval])
 refine AW ?_
 refine es 2000 ?_
 (simp only [LZ,seval])
 refine Rv hx [0,145] (.nili) ([(0,FP s (.sl 1 [] 0 64 1)),(1,.ar 1 64 (fun j=>B (p j)))]) 2 ?_
 simp only [FP,LY,seval]
theorem Sg (okA:OkM M) (ok:OkH M) (s:List (BitVec 64)) (p:Nat→BitVec 8) :
 Ag M 420 [.imm (FP s (.lst 1 64 (fun j=>B (p j))))] [] 0 (Q3 (Ah (dg (Xg (Lf s (Jf p)))) .nili) [] 0):=by
 refine Ab ok.k420 rfl fun x hx=>?_
 have m1:min 64 136=64:=rfl
 have m2:∀ i:Nat,(0≤i)=True:=fun i=>eq_true (Nat.zero_le i)
 refine es 2000 ?_;(simp only [Agp,Ahn,FP,m1,m2,LZ,seval])
 refine cpK (F4 okA s (Jf p)) (by (try simp only [KU,LY,seval]) <;> first | exact q1 | ((intro j hj;simp only [Jf];repeat' split <;> first | omega | rfl | simp_all | (subst_vars;rfl)))) (by simp only [KU,LX]) ?_
 (simp only [LZ,seval])
 refine Ak (HI okA (Lf s (Jf p))) ?_
 (simp only [LZ,seval])
 refine Ar.mk hx [] [] (Ah (dg (Xg (Lf s (Jf p)))) .nili) [] 0 Am (by (simp only [CU,seval])) (by (try simp only [OJ,seval]) <;> exact q2) trivial ⟨rfl,rfl,rfl⟩
theorem C9 (okA:OkM M) (ok:OkH M) (p:Nat→BitVec 8) :
 Ag M 319 [.lst 1 64 (fun j=>B (p j))] [] 0 (Q3 (dg (DW p)) [] 0):=by
 refine Ab ok.k319 rfl fun x hx=>?_
 refine es 2000 ?_;(simp only [Agn,Aie,LZ,seval])
 have zz:=@FP.eq_1;refine Kb (Ss ok) ?_
 (simp only [FP,LZ,seval])
 have zz:=@FP.eq_1;refine SM [16] (SA ok Zn p) ?_
 (simp only [FP,LZ,seval])
 have zz:=@FP.eq_1;refine Ce (Sg okA ok Zn p) ?_
 (simp only [AH,seval])
 refine Ar.mk hx [] [] (dg (Xg (Lf Zn (Jf p)))) [] 0 Am (by (simp only [CU,seval])) (by (try simp only [OJ,seval]) <;> exact q2) trivial ⟨rfl,rfl,rfl⟩
end Mv
