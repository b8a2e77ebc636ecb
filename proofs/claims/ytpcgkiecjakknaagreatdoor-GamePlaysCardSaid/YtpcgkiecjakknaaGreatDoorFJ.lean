/- A part. -/
import Derived.Test.YtpcgkiecjakknaaGreatDoorFI
set_option linter.all false
set_option maxRecDepth 20000
set_option maxHeartbeats 16000000
namespace Mv
open Go
variable {M:Seat}
structure OkDL (M:Seat):Prop where
 d:OkDl M
 k150:Au M 150 Asq=true
structure Lv where
 kd:Int
 pl:Int
 bd:Int
 v:BitVec 64
def Lv.w (e:Lv):V:=.st 4 (.fcons 0 (.int .i64 e.kd) (.fcons 1 (.int .i64 e.pl) (.fcons 2 (.int .i64 e.bd) (.fcons 3 (W e.v) .fnil))))
def suE (e:Nat→Lv) (kd pl:Int):Nat→BitVec 64
 | 0=>0#64
 | i + 1=>if (e i).kd=kd∧(pl < 0 ∨ (e i).pl=pl) then suE e kd pl i + (e i).v else suE e kd pl i
theorem Amd (ok:OkDl M) (e:Nat→Lv) (n:Nat) (hn:n < 1000) (kd pl:Int):Ag M 149 [D1 (.lst 4 n fun j=>(e j).w),.int .i64 kd,.int .i64 pl] [] 0 (Q3 (W (suE e kd pl n)) [] 0):=by
 refine Ab ok.k149 rfl fun x hx=>?_
 refine es 2000 ?_;(simp only [Agr,Ahz,D1,LZ,seval])
 refine An (σ:=Nat) (fun j=>j≤n) (fun j=>fr 47 [(8,.int .i64 j),(7,W (suE e kd pl j)),(3,.ptr 0 []),(2,.int .i64 pl),(1,.int .i64 kd)]) (fun _=>[(0,D1 (.lst 4 n fun j=>(e j).w))]) (fun _=>1) (fun j=>n - j) 0 Aa ?_ ?_
 ·refine Ao.fr [0] [] hx AQ Am ?_ ?_
  ·simp only [suE,Int.natCast_zero,LY,seval]
  ·simp only [D1,Lv.w,LY,seval]
 ·intro j hj
  refine es 2000 ?_
  by_cases h:j=n
  ·subst h
   have d0:((j:Int) < (j:Int))=False:=eq_false Aa
   (simp only [D1,d0,LZ,seval])
   exact Ar.mkZ hx [] ⟨rfl,rfl,rfl⟩
  ·have d0:((j:Int) < (n:Int))=True:=eq_true Aa
   have d1:(0≤(j:Int))=True:=eq_true Aa
   have w0:IntKind.i64.wrap ((j:Int) + 1)=((j + 1:Nat):Int):=AZ
   have es:suE e kd pl (j + 1)=if (e j).kd=kd∧(pl < 0 ∨ (e j).pl=pl) then suE e kd pl j + (e j).v else suE e kd pl j:=rfl
   by_cases g1:(e j).kd=kd
   ·by_cases g2:pl < 0
    ·rw [if_pos ⟨g1,.inl g2⟩] at es
     have g1:=eq_true g1
     have g2:=eq_true g2
     (simp only [D1,Lv.w,d0,d1,w0,g1,g2,LZ,seval])
     repeat refine sd ?_
     refine ⟨j + 1,by omega,by omega,?_⟩
     refine Ao.fr [0] [] hx AQ Am ?_ ?_
     ·simp only [es,LY,seval]
     ·simp only [D1,Lv.w,LY,seval]
    ·by_cases g3:(e j).pl=pl
     ·rw [if_pos ⟨g1,.inr g3⟩] at es
      have g1:=eq_true g1
      have g2:=eq_false g2
      have g3:=eq_true g3
      (simp only [D1,Lv.w,d0,d1,w0,g1,g2,g3,LZ,seval])
      repeat refine sd ?_
      refine ⟨j + 1,by omega,by omega,?_⟩
      refine Ao.fr [0] [] hx AQ Am ?_ ?_
      ·simp only [es,LY,seval]
      ·simp only [D1,Lv.w,LY,seval]
     ·rw [if_neg (fun h=>h.2.elim g2 g3)] at es
      have g1:=eq_true g1
      have g2:=eq_false g2
      have g3:=eq_false g3
      (simp only [D1,Lv.w,d0,d1,w0,g1,g2,g3,LZ,seval])
      repeat refine sd ?_
      refine ⟨j + 1,by omega,by omega,?_⟩
      refine Ao.fr [0] [] hx AQ Am ?_ ?_
      ·simp only [es,LY,seval]
      ·simp only [D1,Lv.w,LY,seval]
   ·rw [if_neg (fun h=>g1 h.1)] at es
    have g1:=eq_false g1
    (simp only [D1,Lv.w,d0,d1,w0,g1,LZ,seval])
    repeat refine sd ?_
    refine ⟨j + 1,by omega,by omega,?_⟩
    refine Ao.fr [0] [] hx AQ Am ?_ ?_
    ·simp only [es,LY,seval]
    ·simp only [D1,Lv.w,LY,seval]
def blE (e:Nat→Lv) (n:Nat) (p:Int):BitVec 64:=suE e 1 p n + suE e 4 p n - suE e 2 p n - suE e 3 p n
theorem Alm (ok:OkDL M) (e:Nat→Lv) (n:Nat) (hn:n < 1000) (p:Int):Ag M 150 [D1 (.lst 4 n fun j=>(e j).w),.int .i64 p] [] 0 (Q3 (W (blE e n p)) [] 0):=by
 have hS:=fun kd=>Amd ok.d e n hn kd p
 simp only [D1,Lv.w] at hS
 refine Ab ok.k150 rfl fun x hx=>?_
 refine es 2000 ?_;(simp only [Asq,Asz,D1,Lv.w,LZ,seval])
 refine Bq (hS 1) ?_
 (simp only [LZ,seval])
 refine Bq (hS 4) ?_
 (simp only [LZ,seval])
 refine Bq (hS 2) ?_
 (simp only [LZ,seval])
 refine Bq (hS 3) ?_
 (simp only [LZ,seval])
 have zz:=@blE.eq_1;exact Bf hx [] ⟨rfl,rfl,rfl⟩
def lkE (e:Nat→Lv):Nat→Nat
 | 0=>0
 | i + 1=>if (e i).kd=3 then lkE e i + 1 else lkE e i
def vlE (e:Nat→Lv) (b:Int):Nat→BitVec 64
 | 0=>0#64
 | i + 1=>if (e i).kd=3∧(lkE e i:Int)=b then (e i).v else vlE e b i
def gvE (e:Nat→Lv) (b:Int):Nat→Bool
 | 0=>false
 | i + 1=>gvE e b i || decide ((e i).kd=4∧(e i).bd=b)
theorem Al6 (e:Nat→Lv):∀ n,lkE e n≤n
 | 0=>Nat.le_refl _
 | n + 1=>by have:=Al6 e n;rw [lkE];split <;> omega
def doE (e:Nat→Lv) (n:Nat) (x:Lv):Option Int :=
 if x.pl < 0 ∨ 8≤x.pl then some 2
 else if x.kd=3 then (if blE e n x.pl < x.v then some 21 else none)
 else if x.bd < 0 ∨ (lkE e n:Int)≤x.bd then some 4
 else if gvE e x.bd n=true then some 41 else none
def doN (e:Nat→Lv) (n:Nat) (x:Lv):Lv:=if x.kd=3 then x else { x with v:=vlE e x.bd n }
def doR (e:Nat→Lv) (n:Nat) (x:Lv):Int:=if x.kd=3 then lkE e n else 0
theorem Akz (ok:OkDL M) (e:Nat→Lv) (n:Nat) (hn:n < 1000) (x0:Lv) (hx0:x0.kd=3 ∨ x0.kd=4) (z:Int) (hz:doE e n x0=some z) :
 Ag M 263 [.ptr 0 [],x0.w] [(0,D1 (.sl 1 [] 0 n 4)),(1,.ar 4 n fun j=>(e j).w)] 2 (Q3 (Ah (.int .i64 0) (.int .i64 z)) [(0,D1 (.sl 1 [] 0 n 4)),(1,.ar 4 n fun j=>(e j).w)] 2):=by
 unfold doE at hz
 have hB:=Alm ok e n hn x0.pl
 simp only [D1,Lv.w] at hB
 have hl:=Al6 e n
 refine Ab ok.d.k263 rfl fun x hx=>?_
 by_cases h0:x0.pl < 0
 ·rw [if_pos (.inl h0)] at hz
  cases hz
  try
   refine es 2000 ?_;(simp only [ZG,Aac,Lv.w,D1,h0,LZ,seval])
   have zz:=@Ah.eq_1;exact Bf hx [0,1] ⟨rfl,rfl,rfl⟩
 by_cases h1:8≤x0.pl
 ·rw [if_pos (.inr h1)] at hz
  cases hz
  try
   refine es 2000 ?_;(simp only [ZG,Aac,Lv.w,D1,h0,h1,LZ,seval])
   have zz:=@Ah.eq_1;exact Bf hx [0,1] ⟨rfl,rfl,rfl⟩
 rw [if_neg Aa] at hz
 refine es 2000 ?_;(simp only [ZG,Aac,Lv.w,D1,h0,h1,LZ,seval])
 refine An (σ:=Nat) (fun j=>j≤n) (fun j=>fr 123 [(0,.ptr 0 []),(3,.ptr 2 []),(4,.int .i64 0),(5,.int .i64 0),(6,.int .i64 (lkE e j)),(7,W (vlE e x0.bd j)),(8,.bool (gvE e x0.bd j)),(9,.int .i64 j)]) (fun _=>[(0,D1 (.sl 1 [] 0 n 4)),(1,.ar 4 n fun j=>(e j).w),(2,x0.w)]) (fun _=>3) (fun j=>n - j) 0 Aa ?_ ?_
 ·refine Ao.fr [0,1,2] [] hx AQ Am ?_ ?_
  ·simp only [lkE,vlE,gvE,Int.natCast_zero,LY,seval]
  ·simp only [D1,Lv.w,LY,seval]
 ·intro j hj
  refine es 2000 ?_
  by_cases h:j=n
  ·subst h
   have d0:((j:Int) < (j:Int))=False:=eq_false Aa
   rcases hx0 with hk | hk
   ·rw [if_pos hk] at hz
    have w6:((65536:Int)≤(lkE e j:Int))=False:=eq_false Aa
    (simp only [D1,Lv.w,d0,hk,seval,LZ,reduceCtorEq])
    refine Bq (hB) ?_
    by_cases h2:blE e j x0.pl < x0.v
    ·rw [if_pos h2] at hz
     cases hz
     try
      (simp only [h2,LZ,seval])
      have zz:=C4 @Ah.eq_1 @D1.eq_1 @Lv.w.eq_1;exact Bf hx [0,1] ⟨rfl,rfl,rfl⟩
    ·rw [if_neg h2] at hz
     cases hz
     try
      (simp only [h2,w6,hk,Nat.testBit,List.map_nil,List.map_cons,B3,LZ,seval])
      repeat refine sd ?_
      refine Ar.mk hx [0,1,915] [] (Ah (.int .i64 (doR e j x0)) (.int .i64 0)) _ 3 Am (by (simp only [CU,D1,seval])) (by simp only [LV,Ah,doR,hk,if_true,LY,seval]) ?_ ⟨rfl,rfl,rfl⟩
      simp only [D1,Lv.w,LY,seval]
      intro q hq
      by_cases h:q < j
      ·simp only [h,if_true,LY,seval]
      ·obtain rfl:q=j:=Aa
       simp only [Nat.lt_irrefl,Nat.sub_self,doN,hk,CL,LY,seval]
   ·rw [if_neg Aa] at hz
    by_cases h2:x0.bd < 0
    ·rw [if_pos (.inl h2)] at hz
     cases hz
     try
      (simp only [D1,Lv.w,d0,hk,seval,h2,LZ,reduceCtorEq])
      have zz:=C4 @Ah.eq_1 @D1.eq_1 @Lv.w.eq_1;exact Bf hx [0,1] ⟨rfl,rfl,rfl⟩
    by_cases h3:(lkE e j:Int)≤x0.bd
    ·rw [if_pos (.inr h3)] at hz
     cases hz
     try
      (simp only [D1,Lv.w,d0,hk,seval,h2,h3,LZ,reduceCtorEq])
      have zz:=C4 @Ah.eq_1 @D1.eq_1 @Lv.w.eq_1;exact Bf hx [0,1] ⟨rfl,rfl,rfl⟩
    rw [if_neg Aa] at hz
    cases hg:gvE e x0.bd j with
    | true =>
      rw [hg,if_pos rfl] at hz
      cases hz
      try
       (simp only [D1,Lv.w,d0,hk,seval,h2,h3,LZ,reduceCtorEq])
       have zz:=C4 @Ah.eq_1 @D1.eq_1 @Lv.w.eq_1;exact Bf hx [0,1] ⟨rfl,rfl,rfl⟩
    | false =>
      rw [hg,if_neg Am] at hz
      cases hz
      try
       (simp only [D1,Lv.w,d0,hk,seval,h2,h3,Nat.testBit,List.map_nil,List.map_cons,B3,LZ,reduceCtorEq])
       repeat refine sd ?_
       refine Ar.mk hx [0,1,755] [] (Ah (.int .i64 (doR e j x0)) (.int .i64 0)) _ 3 Am (by (simp only [CU,D1,seval])) (by simp only [LV,Ah,doR,hk,seval,if_false,LY,reduceCtorEq]) ?_ ⟨rfl,rfl,rfl⟩
       simp only [D1,Lv.w,LY,seval]
       intro q hq
       by_cases h:q < j
       ·simp only [h,if_true,LY,seval]
       ·obtain rfl:q=j:=Aa
        simp only [Nat.lt_irrefl,Nat.sub_self,doN,hk,seval,CL,LY,reduceCtorEq]
  ·have d0:((j:Int) < (n:Int))=True:=eq_true Aa
   have d1:(0≤(j:Int))=True:=eq_true Aa
   have w0:IntKind.i64.wrap ((j:Int) + 1)=((j + 1:Nat):Int):=AZ
   have w2:IntKind.i64.wrap ((lkE e j:Int) + 1)=((lkE e j + 1:Nat):Int):=by have:=Al6 e j;rw [AY Aa];omega
   have el:lkE e (j + 1)=if (e j).kd=3 then lkE e j + 1 else lkE e j:=rfl
   have ev:vlE e x0.bd (j + 1)=if (e j).kd=3∧(lkE e j:Int)=x0.bd then (e j).v else vlE e x0.bd j:=rfl
   have eg:gvE e x0.bd (j + 1)=(gvE e x0.bd j || decide ((e j).kd=4∧(e j).bd=x0.bd)):=rfl
   generalize lkE e j=Lj at *
   generalize vlE e x0.bd j=Vj at *
   generalize gvE e x0.bd j=Bj at *
   have hc:((e j).kd=3∧((Lj:Int)=x0.bd)=True) ∨ ((e j).kd=3∧((Lj:Int)=x0.bd)=False) ∨ ((e j).kd=4∧((e j).bd=x0.bd)=True) ∨ ((e j).kd=4∧((e j).bd=x0.bd)=False) ∨ (((e j).kd=3)=False∧((e j).kd=4)=False):=by
    by_cases h1:(e j).kd=3
    ·by_cases h2:(Lj:Int)=x0.bd
     ·exact .inl ⟨h1,eq_true h2⟩
     ·exact .inr (.inl ⟨h1,eq_false h2⟩)
    ·by_cases h3:(e j).kd=4
     ·by_cases h2:(e j).bd=x0.bd
      ·exact .inr (.inr (.inl ⟨h3,eq_true h2⟩))
      ·exact .inr (.inr (.inr (.inl ⟨h3,eq_false h2⟩)))
     ·exact .inr (.inr (.inr (.inr ⟨eq_false h1,eq_false h3⟩)))
   rcases hc with hc | hc | hc | hc | hc <;> cases Bj
   all_goals
    simp only [hc,seval,decide_true,decide_false,Bool.or_false,Bool.or_true,Bool.true_or,Bool.false_or,and_self,and_false,false_and,CL] at el ev eg
    (simp only [D1,Lv.w,d0,d1,hc,w0,w2,seval,LZ,reduceCtorEq])
    repeat refine sd ?_
    refine ⟨j + 1,by omega,by omega,?_⟩
    refine Ao.fr [0,1,2] [] hx AQ Am ?_ ?_
    ·simp only [el,ev,eg,LY,seval]
    ·simp only [D1,Lv.w,hc,LY,seval]
theorem Ako (ok:OkDL M) (e:Nat→Lv) (n:Nat) (hn:n < 1000) (x0:Lv) (hx0:x0.kd=3 ∨ x0.kd=4) (hz:doE e n x0=none) :
 Ag M 263 [.ptr 0 [],x0.w] [(0,D1 (.sl 1 [] 0 n 4)),(1,.ar 4 n fun j=>(e j).w)] 2 (Q3 (Ah (.int .i64 (doR e n x0)) (.int .i64 0)) [(0,D1 (.sl 2 [] 0 (n + 1) 4)),(2,.ar 4 (n + 1) fun j=>(if j < n then e j else doN e n x0).w)] 3):=by
 unfold doE at hz
 have hB:=Alm ok e n hn x0.pl
 simp only [D1,Lv.w] at hB
 have hl:=Al6 e n
 refine Ab ok.d.k263 rfl fun x hx=>?_
 by_cases h0:x0.pl < 0
 ·rw [if_pos (.inl h0)] at hz
  cases hz
  try
   refine es 2000 ?_;(simp only [ZG,Aac,Lv.w,D1,h0,LZ,seval])
   have zz:=@Ah.eq_1;exact Bf hx [0,1] ⟨rfl,rfl,rfl⟩
 by_cases h1:8≤x0.pl
 ·rw [if_pos (.inr h1)] at hz
  cases hz
  try
   refine es 2000 ?_;(simp only [ZG,Aac,Lv.w,D1,h0,h1,LZ,seval])
   have zz:=@Ah.eq_1;exact Bf hx [0,1] ⟨rfl,rfl,rfl⟩
 rw [if_neg Aa] at hz
 refine es 2000 ?_;(simp only [ZG,Aac,Lv.w,D1,h0,h1,LZ,seval])
 refine An (σ:=Nat) (fun j=>j≤n) (fun j=>fr 123 [(0,.ptr 0 []),(3,.ptr 2 []),(4,.int .i64 0),(5,.int .i64 0),(6,.int .i64 (lkE e j)),(7,W (vlE e x0.bd j)),(8,.bool (gvE e x0.bd j)),(9,.int .i64 j)]) (fun _=>[(0,D1 (.sl 1 [] 0 n 4)),(1,.ar 4 n fun j=>(e j).w),(2,x0.w)]) (fun _=>3) (fun j=>n - j) 0 Aa ?_ ?_
 ·refine Ao.fr [0,1,2] [] hx AQ Am ?_ ?_
  ·simp only [lkE,vlE,gvE,Int.natCast_zero,LY,seval]
  ·simp only [D1,Lv.w,LY,seval]
 ·intro j hj
  refine es 2000 ?_
  by_cases h:j=n
  ·subst h
   have d0:((j:Int) < (j:Int))=False:=eq_false Aa
   rcases hx0 with hk | hk
   ·rw [if_pos hk] at hz
    have w6:((65536:Int)≤(lkE e j:Int))=False:=eq_false Aa
    (simp only [D1,Lv.w,d0,hk,seval,LZ,reduceCtorEq])
    refine Bq (hB) ?_
    by_cases h2:blE e j x0.pl < x0.v
    ·rw [if_pos h2] at hz
     cases hz
     try
      (simp only [h2,LZ,seval])
      have zz:=C4 @Ah.eq_1 @D1.eq_1 @Lv.w.eq_1;exact Bf hx [0,1] ⟨rfl,rfl,rfl⟩
    ·rw [if_neg h2] at hz
     cases hz
     try
      (simp only [h2,w6,hk,Nat.testBit,List.map_nil,List.map_cons,B3,LZ,seval])
      repeat refine sd ?_
      refine Ar.mk hx [0,1,915] [] (Ah (.int .i64 (doR e j x0)) (.int .i64 0)) _ 3 Am (by (simp only [CU,D1,seval])) (by simp only [LV,Ah,doR,hk,if_true,LY,seval]) ?_ ⟨rfl,rfl,rfl⟩
      simp only [D1,Lv.w,LY,seval]
      intro q hq
      by_cases h:q < j
      ·simp only [h,if_true,LY,seval]
      ·obtain rfl:q=j:=Aa
       simp only [Nat.lt_irrefl,Nat.sub_self,doN,hk,CL,LY,seval]
   ·rw [if_neg Aa] at hz
    by_cases h2:x0.bd < 0
    ·rw [if_pos (.inl h2)] at hz
     cases hz
     try
      (simp only [D1,Lv.w,d0,hk,seval,h2,LZ,reduceCtorEq])
      have zz:=C4 @Ah.eq_1 @D1.eq_1 @Lv.w.eq_1;exact Bf hx [0,1] ⟨rfl,rfl,rfl⟩
    by_cases h3:(lkE e j:Int)≤x0.bd
    ·rw [if_pos (.inr h3)] at hz
     cases hz
     try
      (simp only [D1,Lv.w,d0,hk,seval,h2,h3,LZ,reduceCtorEq])
      have zz:=C4 @Ah.eq_1 @D1.eq_1 @Lv.w.eq_1;exact Bf hx [0,1] ⟨rfl,rfl,rfl⟩
    rw [if_neg Aa] at hz
    cases hg:gvE e x0.bd j with
    | true =>
      rw [hg,if_pos rfl] at hz
      cases hz
      try
       (simp only [D1,Lv.w,d0,hk,seval,h2,h3,LZ,reduceCtorEq])
       have zz:=C4 @Ah.eq_1 @D1.eq_1 @Lv.w.eq_1;exact Bf hx [0,1] ⟨rfl,rfl,rfl⟩
    | false =>
      rw [hg,if_neg Am] at hz
      cases hz
      try
       (simp only [D1,Lv.w,d0,hk,seval,h2,h3,Nat.testBit,List.map_nil,List.map_cons,B3,LZ,reduceCtorEq])
       repeat refine sd ?_
       refine Ar.mk hx [0,1,755] [] (Ah (.int .i64 (doR e j x0)) (.int .i64 0)) _ 3 Am (by (simp only [CU,D1,seval])) (by simp only [LV,Ah,doR,hk,seval,if_false,LY,reduceCtorEq]) ?_ ⟨rfl,rfl,rfl⟩
       simp only [D1,Lv.w,LY,seval]
       intro q hq
       by_cases h:q < j
       ·simp only [h,if_true,LY,seval]
       ·obtain rfl:q=j:=Aa
        simp only [Nat.lt_irrefl,Nat.sub_self,doN,hk,seval,CL,LY,reduceCtorEq]
  ·have d0:((j:Int) < (n:Int))=True:=eq_true Aa
   have d1:(0≤(j:Int))=True:=eq_true Aa
   have w0:IntKind.i64.wrap ((j:Int) + 1)=((j + 1:Nat):Int):=AZ
   have w2:IntKind.i64.wrap ((lkE e j:Int) + 1)=((lkE e j + 1:Nat):Int):=by have:=Al6 e j;rw [AY Aa];omega
   have el:lkE e (j + 1)=if (e j).kd=3 then lkE e j + 1 else lkE e j:=rfl
   have ev:vlE e x0.bd (j + 1)=if (e j).kd=3∧(lkE e j:Int)=x0.bd then (e j).v else vlE e x0.bd j:=rfl
   have eg:gvE e x0.bd (j + 1)=(gvE e x0.bd j || decide ((e j).kd=4∧(e j).bd=x0.bd)):=rfl
   generalize lkE e j=Lj at *
   generalize vlE e x0.bd j=Vj at *
   generalize gvE e x0.bd j=Bj at *
   have hc:((e j).kd=3∧((Lj:Int)=x0.bd)=True) ∨ ((e j).kd=3∧((Lj:Int)=x0.bd)=False) ∨ ((e j).kd=4∧((e j).bd=x0.bd)=True) ∨ ((e j).kd=4∧((e j).bd=x0.bd)=False) ∨ (((e j).kd=3)=False∧((e j).kd=4)=False):=by
    by_cases h1:(e j).kd=3
    ·by_cases h2:(Lj:Int)=x0.bd
     ·exact .inl ⟨h1,eq_true h2⟩
     ·exact .inr (.inl ⟨h1,eq_false h2⟩)
    ·by_cases h3:(e j).kd=4
     ·by_cases h2:(e j).bd=x0.bd
      ·exact .inr (.inr (.inl ⟨h3,eq_true h2⟩))
      ·exact .inr (.inr (.inr (.inl ⟨h3,eq_false h2⟩)))
     ·exact .inr (.inr (.inr (.inr ⟨eq_false h1,eq_false h3⟩)))
   rcases hc with hc | hc | hc | hc | hc <;> cases Bj
   all_goals
    simp only [hc,seval,decide_true,decide_false,Bool.or_false,Bool.or_true,Bool.true_or,Bool.false_or,and_self,and_false,false_and,CL] at el ev eg
    (simp only [D1,Lv.w,d0,d1,hc,w0,w2,seval,LZ,reduceCtorEq])
    repeat refine sd ?_
    refine ⟨j + 1,by omega,by omega,?_⟩
    refine Ao.fr [0,1,2] [] hx AQ Am ?_ ?_
    ·simp only [el,ev,eg,LY,seval]
    ·simp only [D1,Lv.w,hc,LY,seval]
def HT (a b c d:V):V:=.tup (.fcons 0 a (.fcons 1 b (.fcons 2 c (.fcons 3 d .fnil))))
def Gs.enA (G:Gs) (a:Nat):Dg :=
 if 0#64 < Ys G.D (G.c a).pos then (match Sx G.D G.c (Ys G.D (G.c a).pos - 1#64) (a + 1) a with | some j=>(G.c j).val | none=>Dg.zero) else G.s
def Gs.enJ (G:Gs) (a:Nat):Option Nat:=Sx G.D G.c (Ys G.D (G.c a).pos + 1#64) (a + 1) a
theorem PW {D n:Nat} {c:Nat→Cl} (hr:Prs n c) (t:BitVec 64):∀ f (a j:Nat),a < n→Sx D c t f a=some j→j < n∧j≤a
 | 0,_,_,_,h=>by cases h
 | f + 1, a, j, ha, h => by
   rw [Sx,if_neg Aa,Int.toNat_natCast] at h
   split at h
   ·cases h;exact ⟨ha,Nat.le_refl _⟩
   ·rcases hr a ha with h1 | ⟨p,h1,hp⟩
    ·rw [h1] at h
     cases f with
     | zero=>cases h
     | succ f=>rw [Sx,if_pos Aa] at h;cases h
    ·rw [h1] at h
     obtain ⟨h2,h3⟩:=PW hr t f p j Aa h
     exact ⟨h2,by omega⟩
theorem OA {M:Seat} (ok:OkGs M) (G:Gs) (hD:G.D≤20) (hp:Pls G.D G.n G.c) (hr:Prs G.n G.c) (a:Nat) (ha:a < G.n) :
 Ag M 356 [.ptr 0 [],.int .i64 a,.bool false] [(0,Ai G.D G.l G.g G.s (.ptr 2 []) (.sl 1 [] 0 G.n 42)),(1,Ap G.n G.c)] 3 (Q3 (HT (dg (G.enA a)) (dg (G.c a).val) (.int .i64 G.D) .nili) [(0,Ai G.D G.l G.g G.s (.ptr 2 []) (.sl 1 [] 0 G.n 42)),(1,Ap G.n G.c)] 3):=by
 obtain ⟨D,l,g,s,n,c,b,ii,o,kk,vv,gv⟩:=G
 dsimp only [Gs.enA] at *
 obtain ⟨k,i,hk,hi,hpos⟩:=hp a ha
 have hT:=FA ok.v.g.p ok.k359 (show D≤24 by omega) hk hi
 have hA:=HJ ok D hD l g s n c hp hr a ha (Ys D (c a).pos - 1#64)
 rw [hpos,PU Aa hi] at hA ⊢
 generalize BitVec.ofNat 64 (Zp D k i)=w at *
 have d1:((a:Int) < (n:Int))=True:=eq_true Aa
 have d2:(0≤(a:Int))=True:=eq_true Aa
 refine Ab ok.k356 rfl fun x hx=>?_
 by_cases hw:0#64 < w
 ·have hw':=eq_true hw
  rw [if_pos hw]
  generalize Sx D c (w - 1#64) (a + 1) a=R at *
  refine es 2000 ?_;(simp only [Tw,TA,Ai,Al,Ac,Ap,Cl.v,hpos,d1,d2,LZ,seval])
  repeat refine sd ?_
  refine Bq (hT) ?_
  (simp only [AH,hw',seval])
  cases R with
  | none =>
    simp only [Yt] at hA
    have zz:=Db @Ai.eq_1 @Al.eq_1 @Ac.eq_1 @Cl.v.eq_1 @Ap.eq_1 @dg.eq_1;refine Bw [0,1,2] [0,1] (hA) ?_
    (simp only [AH,Ai,Al,Ac,Cl.v,Cl.zero,Ap,seval])
    have zz:=Ka @HT.eq_1 @dg.eq_1 @Cl.v.eq_1 @Ac.eq_1;exact Bf hx [0,1,2] ⟨rfl,rfl,rfl⟩
  | some j =>
    simp only [Yt] at hA
    have zz:=Db @Ai.eq_1 @Al.eq_1 @Ac.eq_1 @Cl.v.eq_1 @Ap.eq_1 @dg.eq_1;refine Bw [0,1,2] [0,1] (hA) ?_
    (simp only [AH,Ai,Al,Ac,Cl.v,Ap,seval])
    have zz:=Ka @HT.eq_1 @dg.eq_1 @Cl.v.eq_1 @Ac.eq_1;exact Bf hx [0,1,2] ⟨rfl,rfl,rfl⟩
 ·have hw':=eq_false hw
  rw [if_neg hw]
  refine es 2000 ?_;(simp only [Tw,TA,Ai,Al,Ac,Ap,Cl.v,hpos,d1,d2,LZ,seval])
  repeat refine sd ?_
  refine Bq (hT) ?_
  (simp only [AH,hw',seval])
  have zz:=Ka @HT.eq_1 @dg.eq_1 @Cl.v.eq_1 @Ac.eq_1;exact Bf hx [0,1,2] ⟨rfl,rfl,rfl⟩
def Gs.enD (G:Gs) (a:Nat):V:=match G.enJ a with
 | none=>HT (dg Dg.zero) (dg Dg.zero) (.int .i64 0) (er 45)
 | some j=>HT (dg (G.c a).val) (dg (G.c j).val) (.int .i64 (Ia (G.c j).pos)) .nili
theorem Ox {M:Seat} (ok:OkGs M) (G:Gs) (hD:G.D≤20) (hp:Pls G.D G.n G.c) (hr:Prs G.n G.c) (a:Nat) (ha:a < G.n) :
 Ag M 356 [.ptr 0 [],.int .i64 a,.bool true] [(0,Ai G.D G.l G.g G.s (.ptr 2 []) (.sl 1 [] 0 G.n 42)),(1,Ap G.n G.c)] 3 (Q3 (G.enD a) [(0,Ai G.D G.l G.g G.s (.ptr 2 []) (.sl 1 [] 0 G.n 42)),(1,Ap G.n G.c)] 3):=by
 obtain ⟨D,l,g,s,n,c,b,ii,o,kk,vv,gv⟩:=G
 dsimp only [Gs.enD,Gs.enJ] at *
 obtain ⟨k,i,hk,hi,hpos⟩:=hp a ha
 have hT:=FA ok.v.g.p ok.k359 (show D≤24 by omega) hk hi
 have hA:=HJ ok D hD l g s n c hp hr a ha (Ys D (c a).pos + 1#64)
 have hlt:=fun j=>PW (D:=D) hr (Ys D (c a).pos + 1#64) (a + 1) a j ha
 rw [hpos,PU Aa hi] at hA hlt ⊢
 generalize BitVec.ofNat 64 (Zp D k i)=w at *
 have d1:((a:Int) < (n:Int))=True:=eq_true Aa
 have d2:(0≤(a:Int))=True:=eq_true Aa
 generalize Sx D c (w + 1#64) (a + 1) a=R at *
 refine Ab ok.k356 rfl fun x hx=>?_
 cases R with
 | none =>
   simp only [Yt] at hA ⊢
   refine es 2000 ?_;(simp only [Tw,TA,Ai,Al,Ac,Ap,Cl.v,hpos,d1,d2,LZ,seval])
   repeat refine sd ?_
   refine Bq (hT) ?_
   (simp only [AH,seval])
   have zz:=Db @Ai.eq_1 @Al.eq_1 @Ac.eq_1 @Cl.v.eq_1 @Ap.eq_1 @dg.eq_1;refine Bw [0,1,2] [0,1] (hA) ?_
   (simp only [AH,Ai,Al,Ac,Cl.v,Cl.zero,Ap,seval])
   have zz:=Ka @HT.eq_1 @dg.eq_1 @Cl.v.eq_1 @Ac.eq_1;exact Bf hx [0,1,2] ⟨rfl,rfl,rfl⟩
 | some j =>
   simp only [Yt] at hA ⊢
   obtain ⟨k2,i2,hk2,hi2,hpos2⟩:=hp j (hlt j rfl).1
   have hP:=Bc ok.v.g.p (show k2≤24 by omega) hi2
   rw [hpos2,Cr Aa hi2]
   refine es 2000 ?_;(simp only [Tw,TA,Ai,Al,Ac,Ap,Cl.v,hpos,d1,d2,LZ,seval])
   repeat refine sd ?_
   refine Bq (hT) ?_
   (simp only [AH,seval])
   have zz:=Db @Ai.eq_1 @Al.eq_1 @Ac.eq_1 @Cl.v.eq_1 @Ap.eq_1 @dg.eq_1;refine Bw [0,1,2] [0,1] (hA) ?_
   (simp only [AH,Ai,Al,Ac,Cl.v,Ap,hpos2,seval])
   refine Ak (hP) ?_
   (simp only [AS,LZ,seval])
   have zz:=Ka @HT.eq_1 @dg.eq_1 @Cl.v.eq_1 @Ac.eq_1;exact Bf hx [0,1,2] ⟨rfl,rfl,rfl⟩
structure OkGt (M:Seat):Prop where
 s:OkGs M
 k251:Au M 251 VX=true
def Gs.stP (G:Gs) (a:Nat) (df:Bool) (pl:Int) (t:BitVec 64):Option Int :=
 if pl < 0 ∨ 8≤pl then some 2
 else if ¬ Ia (G.c a).pos=G.D then some 45
 else if df=true∧G.enJ a=none then some 45
 else if (G.c a).st=true then some 41
 else if Gy (G.c a).us (G.c a).at' (CQ G.c (G.c a)) t then some 2
 else if G.l≤CQ G.c (G.c a) + t - (G.c a).at' then some 42
 else none
def Gs.jv (G:Gs) (a:Nat):Nat:=(G.enJ a).getD a
def Gs.sA (G:Gs) (a:Nat) (df:Bool):Dg:=if df=true then (G.c a).val else G.enA a
def Gs.sB (G:Gs) (a:Nat) (df:Bool):Dg:=if df=true then (G.c (G.jv a)).val else (G.c a).val
def Gs.sD (G:Gs) (a:Nat) (df:Bool):Nat:=if df=true then Ia (G.c (G.jv a)).pos else G.D
def Gs.stE (G:Gs) (vf:Dg→Dg × Option Int) (a:Nat) (df:Bool) (pl:Int) (t:BitVec 64):Option Int :=
 match G.stP a df pl t with
 | some e=>some e
 | none => match (vf (G.sA a df)).2 with
   | some e=>some e
   | none=>if ((vf (G.sA a df)).1=G.sB a df) ↔ (G.D - G.sD a df) % 2=0 then some 46 else none
structure Gs.wf (G:Gs):Prop where
 hD:G.D≤20
 hn:G.n≤64
 hr:Oa G.l G.g
 pls:Pls G.D G.n G.c
 prs:Prs G.n G.c
theorem Hk {n:Nat} {c:Nat→Cl} (h:Prs n c) {a:Nat} (ha:a < n):(c a).par < 0 ∨ ∃ p:Nat,(c a).par=p∧p < n:=by
 rcases h a ha with h | ⟨p,h,hp⟩
 ·exact .inl Aa
 ·exact .inr ⟨p,h,by omega⟩
theorem SH {M:Seat} (ok:OkGt M) (G:Gs) (w:G.wf) (vf:Dg→Dg × Option Int) (R:Dg) (hd:Hd) (L:List Pf) (pr:Pr)
 (hV:∀ C,Ag M 98 [dg C,BI R hd L pr] [] 0 (Q3 (Ah (dg (vf C).1) (B7 (vf C).2)) [] 0)) (a:Nat) (ha:a < G.n) (df:Bool) (pl:Int) (t:BitVec 64) :
 Ag M 251 [.ptr 0 [],.int .i64 a,(G.c a).v,.bool df,BI R hd L pr,.int .i64 pl,W t] G.H 4 (Q3 (B7 (G.stE vf a df pl t)) G.H 4):=by
 have hEA:=OA ok.s G w.hD w.pls w.prs a ha
 have hED:=Ox ok.s G w.hD w.pls w.prs a ha
 have hOE:=IL ok.s G.D G.l G.g G.s G.n G.c (G.c a) t w.hr (Hk w.prs ha)
 have hOS:=J8 ok.s G.D G.l G.g G.s G.n G.c (G.c a) t w.hr (Hk w.prs ha)
 obtain ⟨k,i,hk,hi,hpos⟩:=w.pls a ha
 have hDp:Ia (G.c a).pos=k:=by rw [hpos,Cr (by have:=w.hD;omega) hi]
 have hP:=Bc ok.s.v.g.p (show k≤24 by have:=w.hD;omega) hi
 have hjl:∀ j,G.enJ a=some j→Ia (G.c j).pos≤G.D:=fun j hj=>by
  obtain ⟨k2,i2,hk2,hi2,hpos2⟩:=w.pls j (PW w.prs _ _ _ _ ha hj).1
  rw [hpos2,Cr (by have:=w.hD;omega) hi2];exact hk2
 have hD20:=w.hD
 clear w
 generalize hE:G.stE vf a df pl t=E
 unfold Gs.stE Gs.stP at hE
 unfold Gs.enD at hED
 unfold Gs.sA Gs.sB Gs.sD Gs.jv at hE
 generalize G.enA a=EA at *
 generalize G.enJ a=EJ at *
 obtain ⟨D,l,g,s,n,c,b,ii,o,kk,vv,gv⟩:=G
 dsimp only at *
 generalize CQ c (c a)=u at *
 rw [hDp] at hE
 simp only [BI,Hd.v,AM] at hV
 refine Ab ok.k251 rfl fun x hx=>?_
 by_cases h1:pl < 0 ∨ 8≤pl
 ·rw [if_pos h1] at hE
  subst hE
  have hB:=RY ok.s.le pl h1
  refine es 2000 ?_;(simp only [VX,TE,Gs.H,Ai,Al,Ac,Cl.v,Ap,Aq,A7,A4,BI,Hd.v,CR,seval])
  refine Wx [2] [] (hB) (by constructor <;> (try simp only [LY,seval]) <;> exact q1) (by simp only [LX]) ?_
  (simp only [AH,seval])
  have zz:=Ka @B7.eq_1 @B7.eq_2 @dg.eq_1 @Cl.v.eq_1;exact Bf hx [0,1,2,3] ⟨rfl,rfl,rfl⟩
 rw [if_neg h1] at hE
 obtain ⟨p,rfl⟩:∃ p:Nat,pl=p:=⟨pl.toNat,by omega⟩
 have hB:=J9 ok.s.le b ii o n kk p Aa
 by_cases h2:k=D
 case neg =>
  rw [if_pos h2] at hE
  subst hE
  have d2:((k:Int)=(D:Int))=False:=eq_false Aa
  refine es 2000 ?_;(simp only [VX,TE,Gs.H,Ai,Al,Ac,Cl.v,Ap,Aq,A7,A4,BI,Hd.v,CR,hpos,seval])
  have zz:=@Aq.eq_1;refine Bw [2,3] [2] (hB) ?_
  (simp only [AH,Aq,seval])
  refine Ak (hP) ?_
  (simp only [AS,Ai,Al,Ac,d2,LZ,seval])
  have zz:=Ka @B7.eq_1 @B7.eq_2 @dg.eq_1 @Cl.v.eq_1;exact Bf hx [0,1,2,3] ⟨rfl,rfl,rfl⟩
 rw [if_neg (fun h=>h h2)] at hE
 subst h2
 by_cases h3:df=true∧EJ=none
 ·rw [if_pos h3] at hE
  obtain ⟨rfl,rfl⟩:=h3
  subst hE
  refine es 2000 ?_;(simp only [VX,TE,Gs.H,Ai,Al,Ac,Cl.v,Ap,Aq,A7,A4,BI,Hd.v,CR,hpos,seval])
  have zz:=@Aq.eq_1;refine Bw [2,3] [2] (hB) ?_
  (simp only [AH,Aq,seval])
  refine Ak (hP) ?_
  (simp only [AS,Ai,Al,Ac,LZ,seval])
  have zz:=Db @Ai.eq_1 @Al.eq_1 @Ac.eq_1 @Cl.v.eq_1 @Ap.eq_1 @dg.eq_1;refine Bw [0,1,2] [0,1] (hED) ?_
  (simp only [HT,Ai,Al,Ac,Cl.v,Ap,LZ,seval])
  have zz:=Ka @B7.eq_1 @B7.eq_2 @dg.eq_1 @Cl.v.eq_1;exact Bf hx [0,1,2,3] ⟨rfl,rfl,rfl⟩
 rw [if_neg h3] at hE
 obtain ⟨A,B,dd,hdd,hEn,hE2⟩:∃ A B dd,dd≤k∧(Ag M 356 [.ptr 0 [],.int .i64 a,.bool df] [(0,Ai k l g s (.ptr 2 []) (.sl 1 [] 0 n 42)),(1,Ap n c)] 3 (Q3 (HT (dg A) (dg B) (.int .i64 dd) .nili) [(0,Ai k l g s (.ptr 2 []) (.sl 1 [] 0 n 42)),(1,Ap n c)] 3))
  ∧ (match (if (c a).st=true then some 41 else if Gy (c a).us (c a).at' u t then some 2 else if l≤u + t - (c a).at' then some 42 else none:Option Int) with
   | some e=>some e
   | none => match (vf A).2 with
     | some e=>some e
     | none=>if (vf A).1=B ↔ (k - dd) % 2=0 then some 46 else none)=E:=by
  cases df with
  | true =>
    cases EJ with
    | none=>exact absurd ⟨rfl,rfl⟩ h3
    | some j=>exact ⟨_,_,_,hjl j rfl,hED,hE⟩
  | false=>exact ⟨_,_,_,Nat.le_refl _,hEA,hE⟩
 clear hEA hED h3 hjl hE
 rename _=E=>hE
 refine es 2000 ?_;(simp only [VX,TE,Gs.H,Ai,Al,Ac,Cl.v,Ap,Aq,A7,A4,BI,Hd.v,CR,hpos,seval])
 have zz:=@Aq.eq_1;refine Bw [2,3] [2] (hB) ?_
 (simp only [AH,Aq,seval])
 refine Ak (hP) ?_
 (simp only [AS,Ai,Al,Ac,LZ,seval])
 have zz:=Db @Ai.eq_1 @Al.eq_1 @Ac.eq_1 @Cl.v.eq_1 @Ap.eq_1 @dg.eq_1;refine Bw [0,1,2] [0,1] (hEn) ?_
 by_cases h4:(c a).st=true
 ·rw [if_pos h4] at hE
  subst hE
  (simp only [HT,Ai,Al,Ac,Cl.v,Ap,h4,LZ,seval])
  have zz:=Db @B7.eq_1 @B7.eq_2 @dg.eq_1 @Cl.v.eq_1 h4 hpos;exact Bf hx [0,1,2,3] ⟨rfl,rfl,rfl⟩
 rw [if_neg h4] at hE
 have h4:(c a).st=false:=by simpa using h4
 (simp only [HT,Ai,Al,Ac,Cl.v,Ap,h4,LZ,seval])
 by_cases h5:Gy (c a).us (c a).at' u t
 ·rw [if_pos h5] at hE
  subst hE
  have hO:=hOE h5
  simp only [Cl.v,h4,hpos] at hO
  have zz:=XK @Ai.eq_1 @Al.eq_1 @Ac.eq_1 @Cl.v.eq_1 @Ap.eq_1 @dg.eq_1 h4 hpos;refine Bw [0,1,2] [0,1] (hO) ?_
  (simp only [AH,Ai,Al,Ac,Cl.v,Ap,seval])
  have zz:=Db @B7.eq_1 @B7.eq_2 @dg.eq_1 @Cl.v.eq_1 h4 hpos;exact Bf hx [0,1,2,3] ⟨rfl,rfl,rfl⟩
 rw [if_neg h5] at hE
 have hO:=hOS h5
 simp only [Cl.v,h4,hpos] at hO
 by_cases h6:l≤u + t - (c a).at'
 ·rw [if_pos h6] at hE
  subst hE
  rw [decide_eq_true h6] at hO
  have zz:=XK @Ai.eq_1 @Al.eq_1 @Ac.eq_1 @Cl.v.eq_1 @Ap.eq_1 @dg.eq_1 h4 hpos;refine Bw [0,1,2] [0,1] (hO) ?_
  (simp only [AH,Ai,Al,Ac,Cl.v,Ap,seval])
  have zz:=Db @B7.eq_1 @B7.eq_2 @dg.eq_1 @Cl.v.eq_1 h4 hpos;exact Bf hx [0,1,2,3] ⟨rfl,rfl,rfl⟩
 rw [if_neg h6] at hE
 rw [decide_eq_false h6] at hO
 have zz:=XK @Ai.eq_1 @Al.eq_1 @Ac.eq_1 @Cl.v.eq_1 @Ap.eq_1 @dg.eq_1 h4 hpos;refine Bw [0,1,2] [0,1] (hO) ?_
 (simp only [AH,Ai,Al,Ac,Cl.v,Ap,seval])
 have hVA:=hV A
 cases hv:vf A with
 | mk nx ve =>
 rw [hv] at hVA hE
 dsimp only at hVA hE
 cases ve with
 | some e =>
   have hE:some e=E:=hE
   subst hE
   have zz:=C4 @dg.eq_1 Fs @Aw;refine Ce (hVA) ?_
   (simp only [NC,Aw,Ai,Al,Ac,Cl.v,Ap,seval])
   have zz:=Db @B7.eq_1 @B7.eq_2 @dg.eq_1 @Cl.v.eq_1 h4 hpos;exact Bf hx [0,1,2,3] ⟨rfl,rfl,rfl⟩
 | none =>
   have hE:(if nx=B ↔ (k - dd) % 2=0 then some 46 else none)=E:=hE
   have e1:IntKind.i64.wrap ((k:Int) - (dd:Int))=((k - dd:Nat):Int):=AZ
   have e0:((k - dd:Nat):Int).tmod 2=(((k - dd) % 2:Nat):Int):=rfl
   have e3:((((k - dd:Nat):Int).tmod 2)=0)=((k - dd) % 2=0):=by rw [e0];exact propext Aa
   have zz:=C4 @dg.eq_1 Fs @B0;refine Ce (hVA) ?_
   by_cases h7:nx=B <;> by_cases h8:(k - dd) % 2=0
   all_goals
    simp only [h7,h8,Lb9,iff_true,true_iff,false_iff,not_false_eq_true,iff_self,reduceIte] at hE
    subst hE
    (simp only [NC,B0,Ai,Al,Ac,Cl.v,Ap,e1,e3,h7,h8,seval])
    have zz:=Db @B7.eq_1 @B7.eq_2 @dg.eq_1 @Cl.v.eq_1 h4 hpos;exact Bf hx [0,1,2,3] ⟨rfl,rfl,rfl⟩
end Mv
