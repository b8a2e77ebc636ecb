/- A part. -/
import Derived.Test.YtncipgmjhaiagaaGreatDoorEX
import Derived.Test.YtncipgmjhaiagaaGreatDoorFO
set_option linter.all false
set_option maxRecDepth 20000
set_option maxHeartbeats 4000000
namespace Mv
open Go
def pd (p:Nat→BitVec 8) (j:Nat):BitVec 8:=if j < 64 then p j else if j=64 then 1 else if j=135 then 128 else 0
def p1 (p:Nat→BitVec 8) (j:Nat):BitVec 8:=if j < 64 then p j else if j=64 then 1 else 0
abbrev sQ (p:Nat→BitVec 8):V→Hp→Nat→Prop:=fun r H' k'=>r=dg (Qf (HL (List.replicate 25 0) (pd p)))∧H'=[]∧k'=0
theorem CC {M:Seat} (ok:OkB M) (p:Nat→BitVec 8) :
 Af M 311 [.lst 1 64 (fun j=>B (p j))] [] 0 (sQ p):=by
 refine Ac ok.k311 rfl fun x hx=>?_
 refine es 30 ?_
 simp only [Ahf,Alx,Dx,↓Ab,A5,Ad,Nat.reduceLT,Int.reduceLE,Int.reduceLT,Nat.reducePow,Nat.reduceAnd,Nat.reduceOr,Nat.reduceShiftRight,Int.reduceToNat,reduceCtorEq,Nat.reduceAdd,Nat.reduceMul,Nat.reduceSub,Nat.reduceBEq,Nat.reduceEqDiff,Nat.reduceLeDiff,Nat.reduceBneDiff,Nat.reduceBNe,↓reduceIte]
 refine B3 (KW ok) False [] [] List.nodup_nil Bu rfl Bu trivial trivial ?_
 rintro r H' k' ⟨rfl,rfl,rfl⟩
 refine ⟨⟨by omega,fun h=>h.elim⟩,?_⟩
 have hnum:Bc [] 16 1=[16]:=rfl
 simp only [hnum,LN,V.ren,AQ,A4,BO,D3,YE,List.append_nil,Vl,ne_eq,CD,Nat.reduceEqDiff,reduceCtorEq]
 refine B3 (R5 ok) False [] [] List.nodup_nil Bu rfl Bu trivial trivial ?_
 rintro r H' k' ⟨rfl,rfl,rfl⟩
 refine ⟨⟨by omega,fun h=>h.elim⟩,?_⟩
 have hnum2:Bc [] 32 1=[32]:=rfl
 simp only [hnum2,LN,V.ren,AQ,A4,BO,D3,YE,List.append_nil,Vl,ne_eq,CD,Nat.reduceEqDiff,reduceCtorEq]
 simp (maxSteps:=2000000) only [Dx,↓Ab,A5,Ad,Nat.reduceLT,Int.reduceLE,Int.reduceLT,Nat.reducePow,Nat.reduceAnd,Nat.reduceOr,Nat.reduceShiftRight,Int.reduceToNat,reduceCtorEq,Nat.reduceAdd,Nat.reduceMul,Nat.reduceSub,Nat.reduceBEq,Nat.reduceEqDiff,Nat.reduceLeDiff,Nat.reduceBneDiff,Nat.reduceBNe,↓reduceIte]
 refine Ag (σ:=Nat) (fun n=>65≤n∧n≤136) (fun n=>fr 83 [(2,.ptr 0 []),(3,.sl 1 [] 0 24 1),(4,.sl 2 [] 0 25 1),(5,.sl 3 [] 0 n 1)])
  (fun n=>[(0,.ar 1 32 (fun _=>B 0)),(1,.ar 1 24 (ws rc)),(2,.ar 1 25 (fun j=>.int .i64 (tv 24 j:Nat))),(3,.ar 1 n (fun j=>B (p1 p j)))]) (fun _=>4) (fun n=>136 - n) 65 Aa ?_ ?_
 ·refine Aj.fr [0,16,32,176] [] hx Ax Ak ?_ ?_
  ·simp only [A7,Nat.reduceLT,reduceCtorEq,Nat.reduceEqDiff,Nat.reduceLeDiff,Nat.reduceBEq]
  ·simp only [A7,Nat.reduceLT,reduceCtorEq,Nat.reduceEqDiff,Nat.reduceLeDiff,Nat.reduceBEq,B_0]
   intro i hi
   by_cases h1:i < 64
   ·rw [if_pos h1,if_neg Aa,p1,if_pos h1]
    exact (Gv _ _ _ _ _).mpr rfl
   ·have:i=64:=Aa
    subst this
    rw [if_neg Aa,if_pos Aa]
    exact (Gv _ _ _ 1 1).mpr rfl
 ·intro n ⟨hn,hn2⟩
  by_cases h136:n=136
  ·subst h136
   have d0:Int.tmod 136 136=0:=rfl
   have d1:decide ((0:Int)=0)=true:=rfl
   have w0:IntKind.i64.wrap (136 - 1)=135:=rfl
   have b128:V.int .u8 128=B 128:=rfl
   have hp:∀ j,(if j=135 then p1 p 135 ^^^ 128 else p1 p j)=pd p j:=by
    intro j
    unfold p1 pd
    by_cases h1:j=135
    ·subst h1;simp
    ·rw [if_neg h1,if_neg h1]
   (refine es 5 ?_;simp (maxSteps:=2000000) only [d0,d1,Dx,↓Ab,A5,Ad,Nat.reduceLT,Int.reduceLE,Int.reduceLT,Nat.reducePow,Nat.reduceAnd,Nat.reduceOr,Nat.reduceShiftRight,Int.reduceToNat,reduceCtorEq,Nat.reduceAdd,Nat.reduceMul,Nat.reduceSub,Nat.reduceBEq,Nat.reduceEqDiff,Nat.reduceLeDiff,Nat.reduceBneDiff,Nat.reduceBNe,↓reduceIte])
   refine ⟨by omega,?_⟩
   (refine es 30 ?_;simp (maxSteps:=2000000) only [d0,d1,w0,b128,hp,Dx,↓Ab,A5,Ad,Nat.reduceLT,Int.reduceLE,Int.reduceLT,Nat.reducePow,Nat.reduceAnd,Nat.reduceOr,Nat.reduceShiftRight,Int.reduceToNat,reduceCtorEq,Nat.reduceAdd,Nat.reduceMul,Nat.reduceSub,Nat.reduceBEq,Nat.reduceEqDiff,Nat.reduceLeDiff,Nat.reduceBneDiff,Nat.reduceBNe,↓reduceIte])
   refine Ag (σ:=Nat) (fun r=>r≤1) (fun r=>fr 83 [(2,.ptr 0 []),(3,.sl 1 [] 0 24 1),(4,.sl 2 [] 0 25 1),(5,.sl 3 [] 0 136 1),(6,.ptr 4 []),(7,.int .i64 (136 * r:Nat))])
    (fun r=>[(0,.ar 1 32 (fun _=>B 0)),(1,.ar 1 24 (ws rc)),(2,.ar 1 25 (fun j=>.int .i64 (tv 24 j:Nat))),(3,.ar 1 136 (fun j=>B (pd p j))),(4,.ar 1 25 (ws (if r=0 then List.replicate 25 0 else HL (List.replicate 25 0) (pd p))))]) (fun _=>5) (fun r=>1 - r) 0 Aa ?_ ?_
   ·refine Aj.fr [0,1,2,3,212] [] hx Ax Ak ?_ ?_
    ·simp only [A7,Nat.reduceLT,reduceCtorEq,Nat.reduceEqDiff,Nat.reduceLeDiff,Nat.reduceBEq]
     rfl
    ·simp only [A7,Nat.reduceLT,reduceCtorEq,Nat.reduceEqDiff,Nat.reduceLeDiff,Nat.reduceBEq,W_0]
     intro j hj
     rw [List.getD,List.getElem?_replicate,if_pos hj];rfl
   ·intro r hr
    by_cases h1:r=1
    ·subst h1
     have d2:decide (((136 * 1:Nat):Int) < 136)=false:=rfl
     (refine es 30 ?_;simp (maxSteps:=2000000) only [d2,if_neg (Nat.one_ne_zero),Dx,↓Ab,A5,Ad,Nat.reduceLT,Int.reduceLE,Int.reduceLT,Nat.reducePow,Nat.reduceAnd,Nat.reduceOr,Nat.reduceShiftRight,Int.reduceToNat,reduceCtorEq,Nat.reduceAdd,Nat.reduceMul,Nat.reduceSub,Nat.reduceBEq,Nat.reduceEqDiff,Nat.reduceLeDiff,Nat.reduceBneDiff,Nat.reduceBNe,↓reduceIte])
     generalize hS:HL (List.replicate 25 0) (pd p)=S
     refine Ag (σ:=Nat) (fun i=>i≤32) (fun i=>fr 83 [(2,.ptr 2 []),(9,.ptr 0 []),(6,.ptr 1 []),(10,.int .i64 i)])
      (fun i=>[(0,.ar 1 32 (fun j=>B (if j < i then (Qf S).at j else 0))),(1,.ar 1 25 (ws S)),(2,.ar 1 32 (fun _=>B 0))]) (fun _=>3) (fun i=>32 - i) 0 Aa ?_ ?_
     ·refine Aj.fr [69,4,0] [] hx Ax Ak ?_ ?_
      ·simp only [A7,Nat.reduceLT,reduceCtorEq,Nat.reduceEqDiff,Nat.reduceLeDiff,Nat.reduceBEq]
      ·simp only [A7,Nat.reduceLT,reduceCtorEq,Nat.reduceEqDiff,Nat.reduceLeDiff,Nat.reduceBEq,B_0]
       exact fun _ _=>by rw [if_neg Aa]
     ·intro i hi
      by_cases h32:i=32
      ·subst h32
       have d3:decide (((32:Nat):Int) < 32)=false:=rfl
       (refine es 30 ?_;simp (maxSteps:=2000000) only [d3,Dx,↓Ab,A5,Ad,Nat.reduceLT,Int.reduceLE,Int.reduceLT,Nat.reducePow,Nat.reduceAnd,Nat.reduceOr,Nat.reduceShiftRight,Int.reduceToNat,reduceCtorEq,Nat.reduceAdd,Nat.reduceMul,Nat.reduceSub,Nat.reduceBEq,Nat.reduceEqDiff,Nat.reduceLeDiff,Nat.reduceBneDiff,Nat.reduceBNe,↓reduceIte])
       refine Aq.mk hx [] [] (dg (Qf S)) [] 0 Ak ?_ ?_ trivial ?_
       rotate_left 2
       ·exact ⟨by rw [hS],rfl,rfl⟩
       ·simp only [Lc,↓Ab,ex,Ro,AC,A5,Ad,Nat.reduceLT,Int.reduceLE,Int.reduceLT,Nat.reducePow,Nat.reduceAnd,Nat.reduceOr,Nat.reduceShiftRight,Int.reduceToNat,reduceCtorEq,Nat.reduceAdd,Nat.reduceMul,Nat.reduceSub,Nat.reduceBEq,Nat.reduceEqDiff]
       ·simp only [Lb,↓Ab,ex,Ro,AC,A5,Ad,Nat.reduceLT,Int.reduceLE,Int.reduceLT,Nat.reducePow,Nat.reduceAnd,Nat.reduceOr,Nat.reduceShiftRight,Int.reduceToNat,reduceCtorEq,Nat.reduceAdd,Nat.reduceMul,Nat.reduceSub,Nat.reduceBEq,Nat.reduceEqDiff,Nat.reduceLeDiff]
        intro j hj
        rw [if_pos hj]
      ·have d3:decide ((i:Int) < 32)=true:=decide_eq_true Aa
       have w1:IntKind.i64.wrap ((i:Int) + 1)=((i + 1:Nat):Int):=A9
       have w2:IntKind.i64.wrap ((i:Int).tdiv 8)=((i / 8:Nat):Int):=Z1
       have w4:(i:Int).tmod 8=((i % 8:Nat):Int):=Ji
       have w5:IntKind.i64.wrap (8 * ((i % 8:Nat):Int))=((8 * (i % 8):Nat):Int):=A9
       have w6:IntKind.u64.wrap ((8 * (i % 8):Nat):Int)=((8 * (i % 8):Nat):Int):=Cy Aa
       (refine es 30 ?_;simp (maxSteps:=2000000) only [d3,w1,w2,w4,w5,w6,Dx,↓Ab,A5,Ad,Nat.reduceLT,Int.reduceLE,Int.reduceLT,Nat.reducePow,Nat.reduceAnd,Nat.reduceOr,Nat.reduceShiftRight,Int.reduceToNat,reduceCtorEq,Nat.reduceAdd,Nat.reduceMul,Nat.reduceSub,Nat.reduceBEq,Nat.reduceEqDiff,Nat.reduceLeDiff,Nat.reduceBneDiff,Nat.reduceBNe,↓reduceIte])
       refine ⟨by omega,⟨by omega,by omega⟩,by omega,by omega,by omega,⟨by omega,by omega⟩,by omega,i + 1,by omega,by omega,?_⟩
       refine Aj.fr [0,1,2] [] hx Ax Ak ?_ ?_
       ·simp only [A7,Nat.reduceLT,reduceCtorEq,Nat.reduceEqDiff,Nat.reduceLeDiff,Nat.reduceBEq]
       ·simp only [A7,Nat.reduceLT,reduceCtorEq,Nat.reduceEqDiff,Nat.reduceLeDiff,Nat.reduceBEq]
        intro j hj
        by_cases hji:j=i
        ·subst hji
         rw [if_pos rfl,if_pos Aa,Qf,Dg.at_mk' _ _ hj]
        ·rw [if_neg hji]
         by_cases h2:j < i
         ·rw [if_pos h2,if_pos Aa]
         ·rw [if_neg h2,if_neg Aa]
    ·have h0:r=0:=Aa
     subst h0
     have d2:decide (((136 * 0:Nat):Int) < 136)=true:=rfl
     (refine es 30 ?_;simp (maxSteps:=2000000) only [d2,Dx,↓Ab,A5,Ad,Nat.reduceLT,Int.reduceLE,Int.reduceLT,Nat.reducePow,Nat.reduceAnd,Nat.reduceOr,Nat.reduceShiftRight,Int.reduceToNat,reduceCtorEq,Nat.reduceAdd,Nat.reduceMul,Nat.reduceSub,Nat.reduceBEq,Nat.reduceEqDiff,Nat.reduceLeDiff,Nat.reduceBneDiff,Nat.reduceBNe,↓reduceIte])
     refine Ag (σ:=Nat) (fun i=>i≤136) (fun i=>fr 83 [(2,.ptr 0 []),(3,.sl 1 [] 0 24 1),(4,.sl 2 [] 0 25 1),(5,.sl 3 [] 0 136 1),(6,.ptr 4 []),(7,.int .i64 0),(8,.int .i64 i)])
      (fun i=>[(0,.ar 1 32 (fun _=>B 0)),(1,.ar 1 24 (ws rc)),(2,.ar 1 25 (fun j=>.int .i64 (tv 24 j:Nat))),(3,.ar 1 136 (fun j=>B (pd p j))),(4,.ar 1 25 (fun j=>W (Oc (List.replicate 25 0) (pd p) (i / 8) (i % 8) j)))]) (fun _=>5) (fun i=>136 - i) 0 Aa ?_ ?_
     ·refine Aj.fr [0,1,2,3,4] [] hx Ax Ak ?_ ?_
      ·simp only [A7,Nat.reduceLT,reduceCtorEq,Nat.reduceEqDiff,Nat.reduceLeDiff,Nat.reduceBEq]
      ·simp only [A7,Nat.reduceLT,reduceCtorEq,Nat.reduceEqDiff,Nat.reduceLeDiff,Nat.reduceBEq]
       exact fun j _=>by rw [Nat.zero_div,Nat.zero_mod,Adg]
     ·intro i hi
      by_cases h136:i=136
      ·subst h136
       have d3:decide (((136:Nat):Int) < 136)=false:=rfl
       (refine es 30 ?_;simp (maxSteps:=2000000) only [d3,Dx,↓Ab,A5,Ad,Nat.reduceLT,Int.reduceLE,Int.reduceLT,Nat.reducePow,Nat.reduceAnd,Nat.reduceOr,Nat.reduceShiftRight,Int.reduceToNat,reduceCtorEq,Nat.reduceAdd,Nat.reduceMul,Nat.reduceSub,Nat.reduceBEq,Nat.reduceEqDiff,Nat.reduceLeDiff,Nat.reduceBneDiff,Nat.reduceBNe,↓reduceIte])
       have w136:IntKind.i64.wrap (0 + 136)=((136 * 1:Nat):Int):=rfl
       refine K1 [1,2] (NA ok (mix (List.replicate 25 0) (pd p))) ?_ rfl (by simp only [AD,Jf,W,implies_true]) ?_
       ·simp only [A7,Nat.reduceLT,reduceCtorEq,Nat.reduceEqDiff,Nat.reduceLeDiff,Nat.reduceBEq]
        exact fun j hj=>(Rl _ _ _ hj).symm
       simp only [w136,Dx,↓Ab,A5,Ad,Nat.reduceLT,Int.reduceLE,Int.reduceLT,Nat.reducePow,Nat.reduceAnd,Nat.reduceOr,Nat.reduceShiftRight,Int.reduceToNat,reduceCtorEq,Nat.reduceAdd,Nat.reduceMul,Nat.reduceSub,Nat.reduceBEq,Nat.reduceEqDiff,Nat.reduceLeDiff,Nat.reduceBneDiff,Nat.reduceBNe,↓reduceIte]
       refine ⟨1,by omega,by omega,?_⟩
       refine Aj.fr [0,1,2,3,4] [] hx Ax Ak ?_ ?_
       ·simp only [A7,Nat.reduceLT,reduceCtorEq,Nat.reduceEqDiff,Nat.reduceLeDiff,Nat.reduceBEq]
        rfl
       ·simp only [A7,Nat.reduceLT,reduceCtorEq,Nat.reduceEqDiff,Nat.reduceLeDiff,Nat.reduceBEq,if_neg (Nat.one_ne_zero)]
        exact fun _ _=>rfl
      ·have d3:decide ((i:Int) < 136)=true:=decide_eq_true Aa
       have w1:IntKind.i64.wrap ((i:Int) + 1)=((i + 1:Nat):Int):=A9
       have w2:IntKind.i64.wrap ((i:Int).tdiv 8)=((i / 8:Nat):Int):=Z1
       have w3:IntKind.i64.wrap (0 + (i:Int))=(i:Int):=A9
       have w4:(i:Int).tmod 8=((i % 8:Nat):Int):=Ji
       have w5:IntKind.i64.wrap (8 * ((i % 8:Nat):Int))=((8 * (i % 8):Nat):Int):=A9
       have w6:IntKind.u64.wrap ((8 * (i % 8):Nat):Int)=((8 * (i % 8):Nat):Int):=Cy Aa
       (refine es 30 ?_;simp (maxSteps:=2000000) only [d3,w1,w2,w3,w4,w5,w6,Dx,↓Ab,A5,Ad,Nat.reduceLT,Int.reduceLE,Int.reduceLT,Nat.reducePow,Nat.reduceAnd,Nat.reduceOr,Nat.reduceShiftRight,Int.reduceToNat,reduceCtorEq,Nat.reduceAdd,Nat.reduceMul,Nat.reduceSub,Nat.reduceBEq,Nat.reduceEqDiff,Nat.reduceLeDiff,Nat.reduceBneDiff,Nat.reduceBNe,↓reduceIte])
       refine ⟨by omega,⟨by omega,by omega⟩,by omega,by omega,⟨by omega,by omega⟩,by omega,by omega,by omega,by omega,⟨by omega,by omega⟩,by omega,i + 1,by omega,by omega,?_⟩
       have e8:∀ j,(if j=i / 8 then Oc (List.replicate 25 0) (pd p) (i / 8) (i % 8) (i / 8) ^^^ BitVec.setWidth 64 (pd p i) <<< (8 * (i % 8)) else Oc (List.replicate 25 0) (pd p) (i / 8) (i % 8) j)=Oc (List.replicate 25 0) (pd p) ((i + 1) / 8) ((i + 1) % 8) j:=by
        intro j
        have e9:pd p i=pd p (8 * (i / 8) + i % 8):=by congr 1;omega
        rw [e9,Adn]
        by_cases h7:i % 8=7
        ·have ea:(i + 1) / 8=i / 8 + 1:=Aa
         have eb:(i + 1) % 8=0:=Aa
         rw [h7,ea,eb,Adm]
        ·have ea:(i + 1) / 8=i / 8:=Aa
         have eb:(i + 1) % 8=i % 8 + 1:=Aa
         rw [ea,eb]
       refine Aj.fr [0,1,2,3,4] [] hx Ax Ak ?_ ?_
       ·simp only [A7,Nat.reduceLT,reduceCtorEq,Nat.reduceEqDiff,Nat.reduceLeDiff,Nat.reduceBEq]
       ·simp only [A7,Nat.reduceLT,reduceCtorEq,Nat.reduceEqDiff,Nat.reduceLeDiff,Nat.reduceBEq,e8]
  ·have e1:((n:Nat):Int).tmod 136=n:=Ji
   have d0:decide ((n:Int)=0)=false:=decide_eq_false Aa
   (refine es 30 ?_;simp (maxSteps:=2000000) only [e1,d0,Dx,↓Ab,A5,Ad,Nat.reduceLT,Int.reduceLE,Int.reduceLT,Nat.reducePow,Nat.reduceAnd,Nat.reduceOr,Nat.reduceShiftRight,Int.reduceToNat,reduceCtorEq,Nat.reduceAdd,Nat.reduceMul,Nat.reduceSub,Nat.reduceBEq,Nat.reduceEqDiff,Nat.reduceLeDiff,Nat.reduceBneDiff,Nat.reduceBNe,↓reduceIte])
   refine ⟨by omega,by omega,n + 1,by omega,by omega,?_⟩
   refine Aj.fr [0,1,2,100] [] hx Ax Ak ?_ ?_
   ·simp only [A7,Nat.reduceLT,reduceCtorEq,Nat.reduceEqDiff,Nat.reduceLeDiff,Nat.reduceBEq]
   ·simp only [A7,Nat.reduceLT,reduceCtorEq,Nat.reduceEqDiff,Nat.reduceLeDiff,Nat.reduceBEq]
    intro i hi
    by_cases h1:i < n
    ·rw [if_pos h1];exact (Gv _ _ _ _ _).mpr rfl
    ·have:i=n:=Aa
     subst this
     have e2:p1 p i=0:=by rw [p1,if_neg Aa,if_neg Aa]
     rw [if_neg h1,e2]
     simp only [ite_self]
     exact (Gv _ _ _ 0 0).mpr rfl
def two (a b:Dg) (j:Nat):BitVec 8:=if j < 32 then a.at j else b.at (j - 32)
theorem Aig (a b:Dg):pd (two a b)=UR a b:=by
 funext j
 unfold pd two UR
 repeat' split
 all_goals first | rfl | omega
theorem Oe {M:Seat} (ok:OkB M) (a b:Dg) :
 Af M 206 [dg a,dg b] [] 0 (Q3 (dg (B2 a b)) [] 0):=by
 refine Ac ok.k206 rfl fun x hx=>?_
 refine es 30 ?_
 simp only [Adx,Ak3,dg,Dx,↓Ab,A5,Ad,seval]
 refine GQ [144] (CC ok (two a b)) ?_ rfl ?_
 ·simp only [A7,seval]
  intro j hj
  unfold two
  by_cases h1:j < 32
  ·simp only [if_pos h1,Nat.not_lt_zero,if_false,Nat.sub_zero]
   exact (Gv _ _ _ _ _).mpr rfl
  ·simp only [if_neg h1]
   exact (Gv _ _ _ _ _).mpr rfl
 simp only [A4,dg,Dx,↓Ab,A5,Ad,seval]
 refine Aq.mk hx [] [] (dg (B2 a b)) [] 0 Ak ?_ ?_ trivial ⟨rfl,rfl,rfl⟩
 ·simp only [Lc,↓Ab,ex,Ro,AC,A5,Ad,seval]
 ·simp only [Lb,↓Ab,ex,Ro,AC,A5,Ad,seval]
  intro j _
  rw [Aig];rfl
theorem R4 {M:Seat} (ok:OkB M) :
 Af M 205 [] [] 0 (Q3 (.sl 0 [] 0 17 32) [(0,.ar 32 17 (fun j=>dg (Am j)))] 1):=by
 refine Ac ok.k205 rfl fun x hx=>?_
 refine es 30 ?_
 simp only [Afw,Alm,Dx,↓Ab,A5,Ad,seval]
 repeat refine sd ?_
 refine Ag (σ:=Nat) (fun i=>i≤16) (fun i=>fr 21 [(1,.sl 0 [] 0 (i + 1) 32),(2,.int .i64 i)])
  (fun i=>[(0,.ar 32 (i + 1) (fun j=>dg (Am j)))]) (fun _=>1) (fun i=>16 - i) 0 Aa ?_ ?_
 ·refine Aj.fr [16] [] hx Ax Ak ?_ ?_
  ·simp only [A7,seval]
  ·simp only [A7,seval,Yf]
   intro j hj
   have:j=0:=Aa
   subst this;rfl
 ·intro i hi
  by_cases h16:i=16
  ·subst h16
   have d0:decide (((16:Nat):Int) < 16)=false:=rfl
   (refine es 30 ?_;simp (maxSteps:=2000000) only [d0,Dx,↓Ab,A5,Ad,seval])
   refine Aq.mk hx [0] [] (.sl 0 [] 0 17 32) [(0,.ar 32 17 (fun j=>dg (Am j)))] 1 Ak ?_ ?_ ?_ ⟨rfl,rfl,rfl⟩
   ·simp only [Lc,↓Ab,ex,Ro,AC,A5,Ad,seval]
   ·simp only [Lb,↓Ab,ex,Ro,AC,A5,Ad,seval]
   ·simp only [A7,seval]
  ·have d0:decide ((i:Int) < 16)=true:=decide_eq_true Aa
   have w1:IntKind.i64.wrap ((i:Int) + 1)=((i + 1:Nat):Int):=A9
   (refine es 30 ?_;simp (maxSteps:=2000000) only [d0,w1,Dx,↓Ab,A5,Ad,seval])
   repeat refine sd ?_
   refine ⟨_,_,AB (Oe ok _ _) ⟨(AJ _ _ _ _ _).mpr rfl,(AJ _ _ _ _ _).mpr rfl,trivial⟩ rfl ⟨rfl,rfl⟩,?_⟩
   simp only [Dx,↓Ab,A5,Ad,seval]
   repeat refine sd ?_
   refine ⟨i + 1,by omega,by omega,?_⟩
   refine Aj.fr [417] [] hx Ax Ak ?_ ?_
   ·simp only [A7,seval]
   ·simp only [A7,seval]
    intro j hj
    by_cases h1:j < i + 1
    ·rw [if_pos h1];exact (AJ _ _ _ _ _).mpr rfl
    ·have:j=i + 1:=Aa
     subst this
     rw [if_neg h1,if_pos Aa]
     exact (AJ _ _ _ _ _).mpr rfl
variable {M:Seat}
structure OkR (M:Seat):Prop where
 k73:Al M 73 f73=true
 k218:Al M 218 Ahk=true
 k219:Al M 219 QT=true
 k329:Al M 329 Ahn=true
 k330:Al M 330 Wj=true
theorem F3 (ok:OkR M) (a b:Dg):Af M 329 [dg a,dg b] [] 0 (Q3 (At (CM a b)) [] 0):=by
 refine Ac ok.k329 rfl fun x hx=>?_
 refine es 2000 ?_;(simp only [Ahn,Akb,dg,LZ,seval])
 refine Ag (σ:=Nat) (fun i=>i≤32) (fun i=>fr 23 [(2,.ptr 0 []),(3,.ptr 1 []),(4,.ptr 2 []),(5,.ptr 3 []),(6,.int .i64 i)])
  (fun i=>[(0,dg a),(1,dg b),(2,At Pr.zero),(3,.ar 1 64 fun j=>B (if j < i then a.at j else if 32≤j∧j < 32 + i then b.at (j - 32) else 0#8))]) (fun _=>4) (fun i=>32 - i) 0 Aa ?_ ?_
 ·refine Aj.fr [0,16,32,48] [] hx Ax Ak ?_ ?_
  ·simp only [LY,seval]
  ·simp only [OS,LY,seval]
   intro j hj
   rw [if_neg Aa,if_neg Aa]
 ·intro i hi
  refine es 2000 ?_
  by_cases h32:i=32
  ·subst h32
   (simp only [At,LZ,seval])
   refine Aq.mk hx [] [] (At (CM a b)) [] 0 Ak (by simp only [Fk,At,seval]) ?_ trivial ⟨rfl,rfl,rfl⟩
   simp only [Fk,At,seval]
   simp only [At,LY,seval]
   intro j hj
   rw [CM,Pr.at_mk' _ _ hj]
   by_cases h:j < 32
   ·rw [if_pos h,if_pos h]
   ·rw [if_neg h,if_neg h,if_pos Aa]
  ·have d0:((i:Int) < 32)=True:=eq_true Aa
   have w0:IntKind.i64.wrap ((i:Int) + 1)=((i + 1:Nat):Int):=A9
   have w1:IntKind.i64.wrap (32 + (i:Int))=((32 + i:Nat):Int):=A9
   have d3:(32 + i=i)=False:=eq_false Aa
   (simp only [d0,w0,w1,d3,Fq,LZ,seval])
   repeat refine sd ?_
   refine ⟨i + 1,by omega,by omega,?_⟩
   refine Aj.fr [0,1,2,3] [] hx Ax Ak ?_ ?_
   ·simp only [LY,seval]
   ·simp only [OS,LY,seval]
    intro j hj
    by_cases e1:j=32 + i
    ·subst e1
     rw [if_pos rfl,if_neg Aa,if_pos Aa,show 32 + i - 32=i by omega];simp only [B,LY,seval]
    ·rw [if_neg e1]
     by_cases e2:j=i
     ·subst e2
      rw [if_pos rfl,if_pos Aa];simp only [B,LY,seval]
     ·rw [if_neg e2]
      by_cases e3:j < i
      ·rw [if_pos e3,if_pos Aa];simp only [B,LY,seval]
      ·rw [if_neg e3,if_neg (by omega:¬ j < i + 1)]
       by_cases e4:32≤j∧j < 32 + i
       ·rw [if_pos e4,if_pos Aa];simp only [B,LY,seval]
       ·rw [if_neg e4,if_neg Aa];simp only [B,LY,seval]
def BJ (hs ps:V) (met:Bool):V:=.st 4 (.fcons 0 hs (.fcons 1 ps (.fcons 2 .nils (.fcons 3 (.bool met) .fnil))))
def Ft:=(aq2 @dg.eq_1 @BJ.eq_1)
theorem O6 (ok:OkR M) (h:Dg) (met:Bool):Af M 330 [.ptr 0 [],dg h] [(0,BJ .nils .nils met)] 1 (Q3 (.int .i64 (-1)) [(0,BJ .nils .nils met)] 1):=by
 refine Ac ok.k330 rfl fun x hx=>?_
 refine es 2000 ?_;(simp only [Wj,Aah,BJ,LZ,seval])
 refine AZ ?_
 refine es 2000 ?_
 (simp only [LZ,seval])
 have zz:=@BJ.eq_1;exact Bg hx [0] ⟨rfl,rfl,rfl⟩
theorem IW (ok:OkR M) (h:Dg) (n:Nat) (hs:Nat→Dg) (met:Bool) (hn:n < 4294967296) (i0:Nat) (hi0:i0≤n) (hlow:∀ j,j < i0→¬ hs j=h) (hend:i0=n ∨ hs i0=h) :
 Af M 330 [.ptr 0 [],dg h] [(0,BJ (.sl 1 [] 0 n 32) (.sl 2 [] 0 n 64) met),(1,.ar 32 n fun i=>dg (hs i))] 3 (Q3 (.int .i64 (if i0=n then -1 else (i0:Int))) [(0,BJ (.sl 1 [] 0 n 32) (.sl 2 [] 0 n 64) met),(1,.ar 32 n fun i=>dg (hs i))] 3):=by
 refine Ac ok.k330 rfl fun x hx=>?_
 refine es 2000 ?_;(simp only [Wj,Aah,BJ,LZ,seval])
 refine Ag (σ:=Nat) (fun i=>i≤i0) (fun i=>fr 25 [(0,.ptr 0 []),(3,.ptr 3 []),(5,.int .i64 i)])
  (fun i=>[(0,BJ (.sl 1 [] 0 n 32) (.sl 2 [] 0 n 64) met),(1,.ar 32 n fun i=>dg (hs i)),(3,dg h)]) (fun _=>4) (fun i=>i0 - i) 0 Aa ?_ ?_
 ·refine Aj.fr [0,1,2,3] [] hx Ax Ak ?_ ?_
  ·simp only [LY,seval]
  ·simp only [Ft,LY,seval]
 ·intro i hi
  refine es 2000 ?_
  by_cases hin:i=n
  ·subst hin
   have e0:i0=i:=Aa
   subst e0
   have d0:((i0:Int) < (i0:Int))=False:=eq_false Aa
   rw [if_pos rfl]
   (simp only [BJ,d0,LZ,seval])
   have zz:=Ft;exact Bg hx [0,1,2] ⟨rfl,rfl,rfl⟩
  ·have d0:((i:Int) < (n:Int))=True:=eq_true Aa
   have w0:IntKind.i64.wrap ((i:Int) + 1)=((i + 1:Nat):Int):=A9
   by_cases hf:hs i=h
   ·have e0:i=i0:=by
     rcases Nat.lt_or_ge i i0 with h1 | h1
     ·exact absurd hf (hlow i h1)
     ·omega
    subst e0
    rw [if_neg hin]
    (simp only [BJ,d0,hf,LZ,seval])
    repeat refine sd ?_
    have zz:=Ft;exact Bg hx [0,1,2] ⟨rfl,rfl,rfl⟩
   ·have hlt:i < i0:=by
     rcases Nat.lt_or_ge i i0 with h1 | h1
     ·exact h1
     ·rcases hend with h2 | h2
      ·omega
      ·exact absurd (by rw [show i=i0 by omega];exact h2) hf
    (simp only [BJ,d0,w0,hf,LZ,seval])
    repeat refine sd ?_
    refine ⟨i + 1,by omega,by omega,?_⟩
    refine Aj.fr [0,1,2,3] [] hx Ax Ak ?_ ?_
    ·simp only [LY,seval]
    ·simp only [Ft,LY,seval]
variable {M:Seat}
def rh (l:List (Dg × Pr)) (i:Nat):Dg:=(l.getD i (Dg.zero,Pr.zero)).1
def rp (l:List (Dg × Pr)) (i:Nat):Pr:=(l.getD i (Dg.zero,Pr.zero)).2
def GT (l:List (Dg × Pr)) (met:Bool):Hp:=[(0,BJ (.sl 1 [] 0 l.length 32) (.sl 2 [] 0 l.length 64) met),(1,.ar 32 l.length fun i=>dg (rh l i)),(2,.ar 64 l.length fun i=>At (rp l i))]
noncomputable def CE (p:Pr):Dg:=Qf (HL (List.replicate 25 0) (pd p.at))
def Gq (l:List (Dg × Pr)) (h:Dg):Nat:=l.findIdx fun x=>decide (x.1=h)
theorem Dy (l:List (Dg × Pr)) (h:Dg):Gq l h≤l.length:=List.findIdx_le_length
theorem Ip (l:List (Dg × Pr)) (h:Dg) (j:Nat) (hj:j < Gq l h):¬ rh l j=h:=by
 have:=List.not_of_lt_findIdx hj
 have hl:j < l.length:=Nat.lt_of_lt_of_le hj (Dy l h)
 rw [rh,List.getD_eq_getElem?_getD,List.getElem?_eq_getElem hl]
 simpa using this
theorem F1 (l:List (Dg × Pr)) (h:Dg):Gq l h=l.length ∨ rh l (Gq l h)=h:=by
 rcases Nat.lt_or_ge (Gq l h) l.length with hl | hl
 ·right
  have:=List.findIdx_getElem (w:=hl)
  rw [rh,List.getD_eq_getElem?_getD,List.getElem?_eq_getElem hl]
  exact of_decide_eq_true this
 ·left;have:=Dy l h;omega
def RX (l:List (Dg × Pr)) (met:Bool):Hp:=[(0,BJ (.sl 3 [] 0 l.length 32) (.sl 4 [] 0 l.length 64) met),(3,.ar 32 l.length fun i=>dg (rh l i)),(4,.ar 64 l.length fun i=>At (rp l i))]
noncomputable def P4 (l:List (Dg × Pr)) (p:Pr):List (Dg × Pr):=l.set (Gq l (CE p)) (CE p,p)
noncomputable def Xk (l:List (Dg × Pr)) (met:Bool) (p:Pr):Bool:=if rp l (Gq l (CE p))=p then met else true
theorem Rh (okB:OkB M) (ok:OkR M) (p:Pr) (met:Bool) :
 Af M 219 [.ptr 0 [],At p] [(0,BJ .nils .nils met)] 1 (Q3 (dg (CE p)) (GT [(CE p,p)] met) 3):=by
 have hS:Af M 311 [.lst 1 64 (fun j=>B (p.at j))] [] 0 (Q3 (dg (CE p)) [] 0):=CC okB p.at
 generalize CE p=D at *
 refine Ac ok.k219 rfl fun x hx=>?_
 refine es 2000 ?_;(simp only [QT,TG,At,LZ,seval])
 refine Ah (hS) ?_
 (simp only [dg,LZ,seval])
 have zz:=Ft;refine Fl [0] (O6 ok D met) ?_
 (simp only [BJ,Fq,LZ,seval])
 refine Aq.mk hx [0,465,817] [] (dg D) (GT [(D,p)] met) 3 Ak (by simp only [Fk,dg,seval]) (by simp only [IT,dg,seval]) ?_ ⟨rfl,rfl,rfl⟩
 simp only [GT,BJ,Fq,List.length_cons,List.length_nil,Nat.zero_add,CF,seval]
 refine ⟨fun i hi=>?_,fun i hi=>?_⟩
 all_goals obtain rfl:i=0:=Aa
 all_goals simp only [if_true,rh,rp,List.getD_cons_zero,LY,seval]
theorem Yg (l:List (Dg × Pr)) (h:Dg) (p:Pr) (i:Nat) (hi:i < l.length + 1):rh (l ++ [(h,p)]) i=if i < l.length then rh l i else h:=by
 by_cases hl:i < l.length
 ·rw [if_pos hl,rh,rh,List.getD_eq_getElem?_getD,List.getD_eq_getElem?_getD,List.getElem?_append_left hl]
 ·obtain rfl:i=l.length:=Aa
  rw [if_neg hl,rh,List.getD_eq_getElem?_getD,List.getElem?_append_right (Nat.le_refl _)];simp
theorem VH (l:List (Dg × Pr)) (h:Dg) (p:Pr) (i:Nat) (hi:i < l.length + 1):rp (l ++ [(h,p)]) i=if i < l.length then rp l i else p:=by
 by_cases hl:i < l.length
 ·rw [if_pos hl,rp,rp,List.getD_eq_getElem?_getD,List.getD_eq_getElem?_getD,List.getElem?_append_left hl]
 ·obtain rfl:i=l.length:=Aa
  rw [if_neg hl,rp,List.getD_eq_getElem?_getD,List.getElem?_append_right (Nat.le_refl _)];simp
theorem Na (l:List (Dg × Pr)) (h:Dg) (p:Pr) (k:Nat) (hk:rh l k=h) (i:Nat):rh (l.set k (h,p)) i=rh l i:=by
 rw [rh,List.getD_eq_getElem?_getD,List.getElem?_set]
 split
 ·rename_i e;subst e
  split
  ·simp [hk]
  ·rename_i h2;rw [rh,List.getD_eq_getElem?_getD,List.getElem?_eq_none Aa]
 ·rw [rh,List.getD_eq_getElem?_getD]
theorem Ng (l:List (Dg × Pr)) (h:Dg) (p:Pr) (k:Nat) (i:Nat) (hi:i < l.length):rp (l.set k (h,p)) i=if i=k then p else rp l i:=by
 rw [rp,List.getD_eq_getElem?_getD,List.getElem?_set]
 by_cases e:k=i
 ·subst e
  rw [if_pos rfl,if_pos rfl,if_pos hi];rfl
 ·rw [if_neg e,if_neg (Ne.symm e),rp,List.getD_eq_getElem?_getD]
theorem JW (okB:OkB M) (ok:OkR M) (p:Pr) (met:Bool) (l:List (Dg × Pr)) (hl:l.length < 4294967296) (hk:Gq l (CE p)=l.length) :
 Af M 219 [.ptr 0 [],At p] (GT l met) 3 (Q3 (dg (CE p)) (RX (l ++ [(CE p,p)]) met) 5):=by
 have hS:Af M 311 [.lst 1 64 (fun j=>B (p.at j))] [] 0 (Q3 (dg (CE p)) [] 0):=CC okB p.at
 generalize CE p=D at *
 have hI:=IW ok D l.length (rh l) met hl (Gq l D) (Dy l D) (Ip l D) (F1 l D)
 simp only [if_pos hk] at hI
 refine Ac ok.k219 rfl fun x hx=>?_
 refine es 2000 ?_;(simp only [QT,TG,At,GT,BJ,LZ,seval])
 refine Ah (hS) ?_
 (simp only [dg,LZ,seval])
 have zz:=Ft;refine JO [0,1,2] [0,1] (hI) ?_
 (simp only [BJ,Fq,LZ,seval])
 repeat refine sd ?_
 refine Aq.mk hx [0,1,2,467,819] [] (dg D) (RX (l ++ [(D,p)]) met) 5 Ak (by simp only [Fk,dg,seval]) (by simp only [IT,dg,seval]) ?_ ⟨rfl,rfl,rfl⟩
 simp only [RX,BJ,Fq,Lc4,Nat.zero_add,CF,seval]
 refine ⟨fun i hi=>?_,fun i hi=>?_⟩
 ·rw [Yg _ _ _ _ hi]
  by_cases h:i < l.length
  ·rw [if_pos h,if_pos h];simp only [LY,seval]
  ·rw [if_neg h,if_neg h,if_pos Aa];simp only [LY,seval]
 ·rw [VH _ _ _ _ hi]
  by_cases h:i < l.length
  ·rw [if_pos h,if_pos h];simp only [LY,seval]
  ·rw [if_neg h,if_neg h,if_pos Aa];simp only [LY,seval]
theorem Kr (okB:OkB M) (ok:OkR M) (p:Pr) (met:Bool) (l:List (Dg × Pr)) (hl:l.length < 4294967296) (hk:¬ Gq l (CE p)=l.length) :
 Af M 219 [.ptr 0 [],At p] (GT l met) 3 (Q3 (dg (CE p)) (GT (P4 l p) (Xk l met p)) 3):=by
 have hS:Af M 311 [.lst 1 64 (fun j=>B (p.at j))] [] 0 (Q3 (dg (CE p)) [] 0):=CC okB p.at
 rw [P4,Xk]
 generalize CE p=D at *
 have hI:=IW ok D l.length (rh l) met hl (Gq l D) (Dy l D) (Ip l D) (F1 l D)
 have hle:=Dy l D
 have hhi:=(F1 l D).resolve_left hk
 generalize Gq l D=k at *
 simp only [if_neg hk] at hI
 have h0:((k:Int) < 0)=False:=eq_false Aa
 refine Ac ok.k219 rfl fun x hx=>?_
 refine es 2000 ?_;(simp only [QT,TG,GT,BJ,BA,seval])
 have zz:=@At.eq_1;refine CI (hS) ?_
 (simp only [dg,BA,seval])
 have zz:=Ft;refine JO [0,1,2] [0,1] (hI) ?_
 by_cases hp:rp l k=p
 all_goals
  (simp only [Ft,hk,h0,hp,BA,seval])
  repeat refine sd ?_
 ·refine Aq.mk hx [0,1,2] [] (dg D) (GT (l.set k (D,p)) met) 3 Ak (by simp only [Fk,dg,seval]) (by simp only [IT,dg,seval]) ?_ ⟨rfl,rfl,rfl⟩
  simp only [GT,Ft,List.length_set,Na _ _ _ _ hhi,CF,seval]
  intro i hi
  rw [Ng _ _ _ _ _ hi]
  by_cases h:i=k
  ·rw [if_pos h,h,hp]
  ·rw [if_neg h]
 ·refine Aq.mk hx [0,1,2] [] (dg D) (GT (l.set k (D,p)) true) 3 Ak (by simp only [Fk,dg,seval]) (by simp only [IT,dg,seval]) ?_ ⟨rfl,rfl,rfl⟩
  simp only [GT,Ft,List.length_set,Na _ _ _ _ hhi,CF,seval]
  intro i hi
  rw [Ng _ _ _ _ _ hi]
  by_cases h:i=k
  ·rw [if_pos h,if_pos h]
   simp only [C6]
  ·rw [if_neg h,if_neg h]
   simp only [C6]
noncomputable def BL:Nat→List (Dg × Pr) × Bool
 | 0=>([],false)
 | n + 1=>if Gq (BL n).1 (CE (CM (Am n) (Am n)))=(BL n).1.length then ((BL n).1 ++ [(CE (CM (Am n) (Am n)),CM (Am n) (Am n))],(BL n).2) else (P4 (BL n).1 (CM (Am n) (Am n)),Xk (BL n).1 (BL n).2 (CM (Am n) (Am n)))
theorem Ku:∀ n,(BL n).1.length≤n
 | 0=>Nat.le_refl 0
 | n + 1 => by
   have h:=Ku n
   rw [BL];split
   ·simp only [Lc4];omega
   ·simp only [P4,List.length_set];omega
def YF:V:=.ar 32 17 (fun j=>dg (Am j))
noncomputable def rnH (n:Nat):Hp:=if n=0 then [(0,BJ .nils .nils false),(1,YF)] else [(0,BJ (.sl 2 [] 0 (BL n).1.length 32) (.sl 3 [] 0 (BL n).1.length 64) (BL n).2),(1,YF),(2,.ar 32 (BL n).1.length fun i=>dg (rh (BL n).1 i)),(3,.ar 64 (BL n).1.length fun i=>At (rp (BL n).1 i))]
theorem Um (okB:OkB M) (ok:OkR M):Af M 218 [] [] 0 (Q3 (.ptr 0 []) (GT (BL 16).1 (BL 16).2) 3):=by
 refine Ac ok.k218 rfl fun x hx=>?_
 refine es 2000 ?_;(simp only [Ahk,Akw,LZ,seval])
 have zz:=@dg.eq_1;refine El (R4 okB) ?_
 (simp only [BA,seval])
 refine Ag (σ:=Nat) (fun n=>n≤16) (fun n=>fr 23 [(1,.ptr 0 []),(2,.sl 1 [] 0 17 32),(3,.int .i64 n)]) rnH (fun n=>if n=0 then 2 else 4) (fun n=>16 - n) 0 Aa ?_ ?_
 ·rw [rnH,if_pos rfl]
  refine Aj.fr [32,64] [] hx Ax Ak ?_ ?_
  ·simp only [LY,seval]
  ·simp only [Ft,YF,LY,seval]
 ·intro n hn
  refine es 2000 ?_
  by_cases h16:n=16
  ·subst h16
   rw [rnH,if_neg Ak,if_neg Ak]
   (simp only [BJ,YF,LZ,seval])
   refine ID hx [0,2,3] (.ptr 0 []) (GT (BL 16).1 (BL 16).2) 3 ?_
   simp only [GT,Ft,CF,seval]
  ·have d0:((n:Int) < 16)=True:=eq_true Aa
   have d1:((n:Int) < 17)=True:=eq_true Aa
   have d2:(0≤(n:Int))=True:=eq_true Aa
   have w0:IntKind.i64.wrap ((n:Int) + 1)=((n + 1:Nat):Int):=A9
   have hlen:=Ku n
   have e0:¬ n + 1=0:=Aa
   have wi1:IntKind.i64.wrap 1=1:=rfl
   by_cases hz:n=0
   ·subst hz
    rw [rnH,if_pos rfl,if_pos rfl]
    have hA:=Rh okB ok (CM (Am 0) (Am 0)) false
    (simp only [BJ,YF,LZ,seval])
    have zz:=@C6;refine Gy (F3 ok (Am 0) (Am 0)) ?_
    (simp only [BA,seval])
    have zz:=aq3 Ft @GT.eq_1 @C6;refine Pd [0] (hA) ?_
    (simp only [Ft,GT,BA,wi1,seval])
    refine ⟨0 + 1,by omega,by omega,?_⟩
    have e1:BL (0 + 1)=([(CE (CM (Am 0) (Am 0)),CM (Am 0) (Am 0))],false):=rfl
    rw [rnH,if_neg e0,if_neg e0,e1]
    refine Aj.fr [0,1,370,371] [] hx Ax Ak ?_ ?_
    ·simp only [LY,seval]
    ·simp only [Ft,YF,CF,seval]
   ·rw [rnH,if_neg hz,if_neg hz]
    by_cases hk:Gq (BL n).1 (CE (CM (Am n) (Am n)))=(BL n).1.length
    ·have hA:=JW okB ok (CM (Am n) (Am n)) (BL n).2 (BL n).1 Aa hk
     (simp only [BJ,YF,d0,d1,d2,LZ,seval])
     repeat refine sd ?_
     have zz:=@C6;refine Gy (F3 ok (Am n) (Am n)) ?_
     (simp only [BA,seval])
     have zz:=aq4 Ft @GT.eq_1 @RX.eq_1 @C6;refine Pd [0,2,3] (hA) ?_
     (simp only [Ft,RX,BA,w0,seval])
     refine ⟨n + 1,by omega,by omega,?_⟩
     rw [rnH,if_neg e0,if_neg e0,BL,if_pos hk]
     refine Aj.fr [0,1,372,373] [] hx Ax Ak ?_ ?_
     ·simp only [LY,seval]
     ·simp only [Ft,YF,CF,seval]
    ·have hA:=Kr okB ok (CM (Am n) (Am n)) (BL n).2 (BL n).1 Aa hk
     (simp only [BJ,YF,d0,d1,d2,LZ,seval])
     repeat refine sd ?_
     have zz:=@C6;refine Gy (F3 ok (Am n) (Am n)) ?_
     (simp only [BA,seval])
     have zz:=aq3 Ft @GT.eq_1 @C6;refine Pd [0,2,3] (hA) ?_
     (simp only [Ft,GT,BA,w0,seval])
     refine ⟨n + 1,by omega,by omega,?_⟩
     rw [rnH,if_neg e0,if_neg e0,BL,if_neg hk]
     refine Aj.fr [0,1,2,3] [] hx Ax Ak ?_ ?_
     ·simp only [LY,seval]
     ·simp only [Ft,YF,CF,seval]
def RO (l:List (Dg × Pr)) (met:Bool):Hp:=[(5,BJ (.sl 6 [] 0 l.length 32) (.sl 7 [] 0 l.length 64) met),(6,.ar 32 l.length fun i=>dg (rh l i)),(7,.ar 64 l.length fun i=>At (rp l i))]
theorem NV (okA:OkM M) (okS:OkS M) (okB:OkB M) (ok:OkR M) :
 Af M 73 [.nils] [] 0 (Q3 (Ao (.ptr 0 []) (.ptr 5 [])) (AF (FK 16) .nils [] ++ RO (BL 16).1 (BL 16).2) 8):=by
 refine Ac ok.k73 rfl fun x hx=>?_
 refine es 2000 ?_;(simp only [f73,c73,LZ,seval])
 have zz:=aq4 @AF.eq_1 Nw @C6 @BV;refine El (PC okA okS) ?_
 (simp only [AF,Nw,AR,BA,seval])
 have zz:=aq3 @GT.eq_1 Ft @C6;refine El (Um okB ok) ?_
 (simp only [AF,Nw,AR,GT,Ft,BA,seval])
 refine AZ ?_
 refine es 2000 ?_
 (simp only [LZ,seval])
 refine ID hx [32,33,34,35,36,48,49,50] (Ao (.ptr 0 []) (.ptr 5 [])) (AF (FK 16) .nils [] ++ RO (BL 16).1 (BL 16).2) 8 ?_
 all_goals simp only [G0,RO,BJ,Ik,Ao,IY,LM,seval]
end Mv
