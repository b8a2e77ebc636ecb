/- A part. -/
import Derived.Test.YtpcgkiecjakknaaGreatDoorDJ
set_option linter.all false
set_option maxRecDepth 20000
set_option maxHeartbeats 16000000
namespace Mv
open Go
variable {M:Seat}
theorem N5 (ok:OkGm M) (D:Nat) (l g:BitVec 64) (s:Dg) (n:Nat) (q:Cl) (k i:Nat) (hk:k≤20) (hi:i < 2 ^ k) (hq:q.pos=pw k i) (hD:D≤k) (df:Bool) :
 Ag M 350 [.ptr 0 [],q.v,.bool df] [(0,Ai D l g s (.ptr 2 []) (.sl 1 [] 0 n 42))] 3 (Q3 (AS (W 0#64) (.int .i64 0) (er 45)) [(0,Ai D l g s (.ptr 2 []) (.sl 1 [] 0 n 42))] 3):=by
 refine Ab ok.k350 rfl fun x hx=>?_
 have d0:((D:Int)≤(k:Int))=True:=eq_true Aa
 refine es 2000 ?_;(simp only [P4,Pv,Ai,Al,Ac,Cl.v,hq,LZ,seval])
 refine Ak (Bc ok.p (show k≤24 by omega) hi) ?_
 (simp only [AS,d0,LZ,seval])
 have zz:=Bb @AS.eq_1 @dg.eq_1;exact Bf hx [0,1,2] ⟨rfl,rfl,rfl⟩
theorem GH (ok:OkGm M) (D:Nat) (l g:BitVec 64) (s:Dg) (n:Nat) (q:Cl) (k i:Nat) (hk:k≤20) (hi:i < 2 ^ k) (hq:q.pos=pw k i) (hD:¬ D≤k) :
 Ag M 350 [.ptr 0 [],q.v,.bool false] [(0,Ai D l g s (.ptr 2 []) (.sl 1 [] 0 n 42))] 3 (Q3 (AS (W (pw (k + 1) (2 * i))) (.int .i64 ((k + 1:Nat):Int)) .nili) [(0,Ai D l g s (.ptr 2 []) (.sl 1 [] 0 n 42))] 3):=by
 refine Ab ok.k350 rfl fun x hx=>?_
 have d0:((D:Int)≤(k:Int))=False:=eq_false Aa
 have z1:IntKind.i64.wrap ((k:Int) + 1)=((k + 1:Nat):Int):=AZ
 refine es 2000 ?_;(simp only [P4,Pv,Ai,Al,Ac,Cl.v,hq,LZ,seval])
 refine Ak (Bc ok.p (show k≤24 by omega) hi) ?_
 (simp only [AS,d0,LZ,seval])
 refine Ak (D6 ok.p (show k < 24 by omega) hi) ?_
 (simp only [AH,z1,seval])
 have zz:=Bb @AS.eq_1 @dg.eq_1;exact Bf hx [0,1,2] ⟨rfl,rfl,rfl⟩
theorem Gw (ok:OkGm M) (D:Nat) (l g:BitVec 64) (s:Dg) (n:Nat) (q:Cl) (k i:Nat) (hk:k≤20) (hi:i + 1 < 2 ^ k) (hq:q.pos=pw k i) (hD:¬ D≤k) :
 Ag M 350 [.ptr 0 [],q.v,.bool true] [(0,Ai D l g s (.ptr 2 []) (.sl 1 [] 0 n 42))] 3 (Q3 (AS (W (pw (k + 1) (2 * i + 2))) (.int .i64 ((k + 1:Nat):Int)) .nili) [(0,Ai D l g s (.ptr 2 []) (.sl 1 [] 0 n 42))] 3):=by
 refine Ab ok.k350 rfl fun x hx=>?_
 have d0:((D:Int)≤(k:Int))=False:=eq_false Aa
 have z1:IntKind.i64.wrap ((k:Int) + 1)=((k + 1:Nat):Int):=AZ
 have hi':i < 2 ^ k:=Aa
 refine es 2000 ?_;(simp only [P4,Pv,Ai,Al,Ac,Cl.v,hq,LZ,seval])
 refine Ak (Bc ok.p (show k≤24 by omega) hi') ?_
 (simp only [AS,d0,LZ,seval])
 refine Ak (D6 ok.p (show k < 24 by omega) hi') ?_
 (simp only [AH,seval])
 refine Ak (HA ok.p (show k < 24 by omega) hi) ?_
 (simp only [AH,z1,seval])
 have zz:=Bb @AS.eq_1 @dg.eq_1;exact Bf hx [0,1,2] ⟨rfl,rfl,rfl⟩
theorem MU (ok:OkGm M) (D:Nat) (l g:BitVec 64) (s:Dg) (n:Nat) (q:Cl) (k:Nat) (hk:k≤20) (hq:q.pos=pw k (2 ^ k - 1)) (hD:¬ D≤k) :
 Ag M 350 [.ptr 0 [],q.v,.bool true] [(0,Ai D l g s (.ptr 2 []) (.sl 1 [] 0 n 42))] 3 (Q3 (AS (W 0#64) (.int .i64 ((k + 1:Nat):Int)) (er 45)) [(0,Ai D l g s (.ptr 2 []) (.sl 1 [] 0 n 42))] 3):=by
 refine Ab ok.k350 rfl fun x hx=>?_
 have d0:((D:Int)≤(k:Int))=False:=eq_false Aa
 have z1:IntKind.i64.wrap ((k:Int) + 1)=((k + 1:Nat):Int):=AZ
 have hi':2 ^ k - 1 < 2 ^ k:=by have:=Tu (show k≤24 by omega);omega
 refine es 2000 ?_;(simp only [P4,Pv,Ai,Al,Ac,Cl.v,hq,LZ,seval])
 refine Ak (Bc ok.p (show k≤24 by omega) hi') ?_
 (simp only [AS,d0,LZ,seval])
 refine Ak (D6 ok.p (show k < 24 by omega) hi') ?_
 (simp only [AH,seval])
 refine Ak (F8 ok.p (show k < 24 by omega)) ?_
 (simp only [AH,z1,seval])
 have zz:=Bb @AS.eq_1 @dg.eq_1;exact Bf hx [0,1,2] ⟨rfl,rfl,rfl⟩
def M4 (X:Cl) (q:BitVec 64) (y:Cl):Prop:=y.par=X.par∧y.pos=q∧y.val=X.val
instance (X:Cl) (q:BitVec 64) (y:Cl):Decidable (M4 X q y):=by unfold M4;infer_instance
theorem I7 (ok:OkMv M) (y X:Cl) (q:BitVec 64):Ag M 352 [y.v,.imm X.v,.imm (W q)] [] 0 (Q3 (.bool (decide (M4 X q y))) [] 0):=by
 refine Ab ok.k352 rfl fun x hx=>?_
 by_cases h1:y.par=X.par
 ·by_cases h2:y.pos=q
  ·by_cases h3:y.val=X.val
   ·have e:decide (M4 X q y)=true:=decide_eq_true ⟨h1,h2,h3⟩
    rw [e]
    refine es 2000 ?_;(simp only [RK,Sf,Cl.v,Ac,h1,h2,h3,LZ,seval])
    exact Ar.mkZ hx [] ⟨rfl,rfl,rfl⟩
   ·have e:decide (M4 X q y)=false:=decide_eq_false fun h=>h3 h.2.2
    rw [e]
    refine es 2000 ?_;(simp only [RK,Sf,Cl.v,Ac,h1,h2,h3,LZ,seval])
    exact Ar.mkZ hx [] ⟨rfl,rfl,rfl⟩
  ·have e:decide (M4 X q y)=false:=decide_eq_false fun h=>h2 h.2.1
   rw [e]
   refine es 2000 ?_;(simp only [RK,Sf,Cl.v,Ac,h1,h2,LZ,seval])
   exact Ar.mkZ hx [] ⟨rfl,rfl,rfl⟩
 ·have e:decide (M4 X q y)=false:=decide_eq_false fun h=>h1 h.1
  rw [e]
  refine es 2000 ?_;(simp only [RK,Sf,Cl.v,Ac,h1,LZ,seval])
  exact Ar.mkZ hx [] ⟨rfl,rfl,rfl⟩
theorem NE (ok:OkMv M) (n:Nat) (hn:n < 1000) (c:Nat→Cl) (X:Cl) (q:BitVec 64) (j0:Nat) (hj:j0 < n) (hs:M4 X q (c j0)) (hno:∀ j,j < j0→¬ M4 X q (c j)) :
 Ag M 452 [.lst 42 n (fun j=>(c j).v),.fn 352 (.st 2 (.fcons 0 (.imm X.v) (.fcons 1 (.imm (W q)) .fnil)))] [] 0 (Q3 (.int .i64 j0) [] 0):=by
 refine Ab ok.k452 rfl fun x hx=>?_
 refine es 2000 ?_;(simp only [WG,WH,LZ,seval])
 refine An (σ:=Nat) (fun i=>i≤j0) (fun i=>fr 19 [(8,.int .i64 i),(7,.int .i64 n),(1,.fn 352 (.st 2 (.fcons 0 (.imm X.v) (.fcons 1 (.imm (W q)) .fnil)))),(0,.lst 42 n fun j=>(c j).v)]) (fun _=>[]) (fun _=>0) (fun i=>j0 - i) 0 Aa ?_ ?_
 ·refine Ao.fr [] [] hx AQ Am ?_ ?_
  all_goals simp only [Int.natCast_zero,Cl.v,Ac,dg,implies_true,LY,seval]
 ·intro i hi
  refine es 2000 ?_
  have d0:((i:Int) < (n:Int))=True:=eq_true Aa
  have d2:(0≤(i:Int))=True:=eq_true Aa
  have hS:=I7 ok (c i) X q
  have z0:IntKind.i64.wrap ((i:Int) + 1)=((i + 1:Nat):Int):=AZ
  (simp only [d0,d2,LZ,seval])
  repeat refine sd ?_
  refine Wj ok.fn352 rfl rfl ?_
  by_cases h0:i=j0
  ·subst h0
   rw [decide_eq_true hs] at hS
   have zz:=C4 @Cl.v.eq_1 @Ac.eq_1 @dg.eq_1;refine Ce (hS) ?_
   (simp only [LZ,seval])
   exact Ar.mkZ hx [] ⟨rfl,rfl,rfl⟩
  ·rw [decide_eq_false (hno i Aa)] at hS
   have zz:=C4 @Cl.v.eq_1 @Ac.eq_1 @dg.eq_1;refine Ce (hS) ?_
   (simp only [z0,LZ,seval])
   refine ⟨i + 1,by omega,by omega,?_⟩
   refine Ao.fr [] [] hx AQ Am ?_ ?_
   all_goals simp only [Cl.v,Ac,dg,implies_true,LY,seval]
theorem M9 (ok:OkMv M) (n:Nat) (hn:n < 1000) (c:Nat→Cl) (X:Cl) (q:BitVec 64) (hno:∀ j,j < n→¬ M4 X q (c j)) :
 Ag M 452 [.lst 42 n (fun j=>(c j).v),.fn 352 (.st 2 (.fcons 0 (.imm X.v) (.fcons 1 (.imm (W q)) .fnil)))] [] 0 (Q3 (.int .i64 (-1)) [] 0):=by
 refine Ab ok.k452 rfl fun x hx=>?_
 refine es 2000 ?_;(simp only [WG,WH,LZ,seval])
 refine An (σ:=Nat) (fun i=>i≤n) (fun i=>fr 19 [(8,.int .i64 i),(7,.int .i64 n),(1,.fn 352 (.st 2 (.fcons 0 (.imm X.v) (.fcons 1 (.imm (W q)) .fnil)))),(0,.lst 42 n fun j=>(c j).v)]) (fun _=>[]) (fun _=>0) (fun i=>n - i) 0 Aa ?_ ?_
 ·refine Ao.fr [] [] hx AQ Am ?_ ?_
  all_goals simp only [Int.natCast_zero,Cl.v,Ac,dg,implies_true,LY,seval]
 ·intro i hi
  refine es 2000 ?_
  by_cases h0:i=n
  ·subst h0
   have d0:((i:Int) < (i:Int))=False:=eq_false Aa
   (simp only [d0,LZ,seval])
   exact Ar.mkZ hx [] ⟨rfl,rfl,rfl⟩
  ·have d0:((i:Int) < (n:Int))=True:=eq_true Aa
   have d2:(0≤(i:Int))=True:=eq_true Aa
   have hS:=I7 ok (c i) X q
   rw [decide_eq_false (hno i Aa)] at hS
   have z0:IntKind.i64.wrap ((i:Int) + 1)=((i + 1:Nat):Int):=AZ
   (simp only [d0,d2,LZ,seval])
   repeat refine sd ?_
   refine Wj ok.fn352 rfl rfl ?_
   have zz:=C4 @Cl.v.eq_1 @Ac.eq_1 @dg.eq_1;refine Ce (hS) ?_
   (simp only [z0,LZ,seval])
   refine ⟨i + 1,by omega,by omega,?_⟩
   refine Ao.fr [] [] hx AQ Am ?_ ?_
   all_goals simp only [Cl.v,Ac,dg,implies_true,LY,seval]
theorem Agj {P:Nat→Prop} (j:Nat) (h:P j):∃ i,i≤j∧P i∧∀ k,k < i→¬ P k:=by
 induction j using Nat.strongRecOn with
 | _ j ih =>
   by_cases h0:∃ k,k < j∧P k
   ·obtain ⟨k,hk,hp⟩:=h0
    obtain ⟨i,hi,hp,hno⟩:=ih k hk hp
    exact ⟨i,by omega,hp,hno⟩
   ·exact ⟨j,Nat.le_refl _,h,fun k hk hp=>h0 ⟨k,hk,hp⟩⟩
theorem IB (ok:OkMv M) (n:Nat) (hn:n < 1000) (c:Nat→Cl) (X:Cl) (q:BitVec 64) (h:∃ j,j < n∧M4 X q (c j)) :
 Ag M 351 [.lst 42 n (fun j=>(c j).v),.fn 352 (.st 2 (.fcons 0 (.imm X.v) (.fcons 1 (.imm (W q)) .fnil)))] [] 0 (Q3 (.bool true) [] 0):=by
 obtain ⟨j,hj,hs⟩:=h
 obtain ⟨j0,hj0,hs0,hno⟩:=Agj (P:=fun j=>M4 X q (c j)) j hs
 have h:=NE ok n hn c X q j0 Aa hs0 hno
 refine Ab ok.k351 rfl fun x hx=>?_
 have d2:(0≤(j0:Int))=True:=eq_true Aa
 refine es 2000 ?_;(simp only [Yv,W9,LZ,seval])
 have zz:=C4 @Cl.v.eq_1 @Ac.eq_1 @dg.eq_1;refine Ce (h) ?_
 (simp only [d2,LZ,seval])
 exact Ar.mkZ hx [] ⟨rfl,rfl,rfl⟩
theorem Fe (ok:OkMv M) (n:Nat) (hn:n < 1000) (c:Nat→Cl) (X:Cl) (q:BitVec 64) (h:¬ ∃ j,j < n∧M4 X q (c j)) :
 Ag M 351 [.lst 42 n (fun j=>(c j).v),.fn 352 (.st 2 (.fcons 0 (.imm X.v) (.fcons 1 (.imm (W q)) .fnil)))] [] 0 (Q3 (.bool false) [] 0):=by
 have h:=M9 ok n hn c X q (fun j hj hs=>h ⟨j,hj,hs⟩)
 refine Ab ok.k351 rfl fun x hx=>?_
 refine es 2000 ?_;(simp only [Yv,W9,LZ,seval])
 have zz:=C4 @Cl.v.eq_1 @Ac.eq_1 @dg.eq_1;refine Ce (h) ?_
 (simp only [LZ,seval])
 exact Ar.mkZ hx [] ⟨rfl,rfl,rfl⟩
variable {M:Seat}
structure Gs where
 D:Nat
 l:BitVec 64
 g:BitVec 64
 s:Dg
 n:Nat
 c:Nat→Cl
 b:Nat→BitVec 64
 i:BitVec 64
 o:BitVec 64
 k:BitVec 64
 v:Nat→BitVec 64
 gv:Nat→Bool
def A7 (n:Nat) (v:Nat→BitVec 64) (g:Nat→Bool):V:=.ar 2 n fun j=>A4 (v j) (g j)
def Gs.H (G:Gs):Hp:=[(0,Ai G.D G.l G.g G.s (.ptr 2 []) (.sl 1 [] 0 G.n 42)),(1,Ap G.n G.c),(2,Aq G.b G.i G.o (.sl 3 [] 0 G.n 2) G.k),(3,A7 G.n G.v G.gv)]
def Sw (a:Nat) (v:Dg) (pl:Int):Cl:=⟨a,0#64,v,pl,0,0#64,0#64,false,false,false,pl⟩
def clP (a:Nat) (v:Dg) (pl:Int) (q:BitVec 64):Cl:=⟨a,q,v,pl,0,0#64,0#64,false,false,false,pl⟩
def clN (a:Nat) (v:Dg) (pl:Int) (q:BitVec 64) (n:Nat) (u t:BitVec 64):Cl:=⟨a,q,v,pl,n,u,t,false,false,false,pl⟩
def Ks (k i:Nat) (df:Bool):BitVec 64:=if df=true then pw (k + 1) (2 * i + 2) else pw (k + 1) (2 * i)
instance (u a b n:BitVec 64):Decidable (Gy u a b n):=by unfold Gy;infer_instance
def Zs (G:Gs) (a:Nat) (df:Bool) (v:Dg) (pl:Int) (bd t:BitVec 64) (k i:Nat):Option Int :=
 if G.D≤k then some 45
 else if df=true∧i + 1=2 ^ k then some 45
 else if ¬ bd=BitVec.ofNat 64 (k + 2) then some 40
 else if ∃ j,j < G.n∧M4 (Sw a v pl) (Ks k i df) (G.c j) then some 41
 else if Gy (G.c a).us (G.c a).at' (CQ G.c (G.c a)) t then some 2
 else if G.l≤CQ G.c (G.c a) + t - (G.c a).at' then some 42
 else if 64≤G.n then some 5
 else if pl < 0 ∨ 8≤pl then some 2
 else if G.b pl.toNat < bd then some 21
 else none
theorem LQ (ok:OkGm M) (k:Nat) (hk:k≤20):Ag M 120 [.int .i64 ((k + 1:Nat):Int)] [] 0 (Q3 (W (BitVec.ofNat 64 (k + 2))) [] 0):=by
 have hB:=Dh ok.n ((k + 1:Nat):Int)
 rw [if_neg Aa] at hB
 have:BitVec.ofInt 64 ((k + 1:Nat):Int) + 1#64=BitVec.ofNat 64 (k + 2):=by
  rw [BitVec.ofInt_natCast,show k + 2=k + 1 + 1 by omega,BitVec.ofNat_add (k + 1)]
 rw [this] at hB
 exact hB
theorem Pw (ok:OkMv M) (G:Gs) (a:Nat) (df:Bool) (v:Dg) (pl:Int) (bd t:BitVec 64) (k i:Nat) (hn:G.n < 1000) (hr:Oa G.l G.g) (ha:a < G.n)
 (hk:k≤20) (hi:i < 2 ^ k) (hp:(G.c a).pos=pw k i) (hb:(G.c a).par < 0 ∨ ∃ p:Nat,(G.c a).par=p∧p < G.n) (z:Int) (he:Zs G a df v pl bd t k i=some z) :
 Ag M 247 [.ptr 0 [],(Sw a v pl).v,(G.c a).v,.bool df,W bd,W t] G.H 4 (Q3 (Ah (.int .i64 0) (er z)) G.H 4):=by
 obtain ⟨D,l,g,s,n,c,b,ii,o,kk,vv,gv⟩:=G
 dsimp only at *
 unfold Zs at he
 dsimp only at he
 have hF:=Dc ok.g D l g s n c (c a) hb
 have hB:=LQ ok.g k hk
 simp only [Ap] at hF
 refine Ab ok.k247 rfl fun x hx=>?_
 by_cases h1:D≤k
 ·rw [if_pos h1] at he
  cases he
  have hP:=N5 ok.g D l g s n (c a) k i hk hi hp h1 df
  refine es 2000 ?_;(simp only [Ot,Ol,Gs.H,Ai,Al,Ac,Sw,Cl.v,Ap,Aq,A7,A4,LZ,seval])
  have zz:=GM @Ai.eq_1 @Al.eq_1 @Ac.eq_1 @Cl.v.eq_1 @dg.eq_1;refine Bw [0,1,2] [0] (hP) ?_
  (simp only [AS,Ai,Al,Ac,LZ,seval])
  have zz:=C4 @Ah.eq_1 @dg.eq_1 @Cl.v.eq_1;exact Bf hx [0,1,2,3] ⟨rfl,rfl,rfl⟩
 rw [if_neg h1] at he
 by_cases h2:df=true∧i + 1=2 ^ k
 ·rw [if_pos h2] at he
  cases he
  obtain ⟨rfl,h2⟩:=h2
  have hP:=MU ok.g D l g s n (c a) k hk (by rw [hp,show i=2 ^ k - 1 by omega]) h1
  refine es 2000 ?_;(simp only [Ot,Ol,Gs.H,Ai,Al,Ac,Sw,Cl.v,Ap,Aq,A7,A4,LZ,seval])
  have zz:=GM @Ai.eq_1 @Al.eq_1 @Ac.eq_1 @Cl.v.eq_1 @dg.eq_1;refine Bw [0,1,2] [0] (hP) ?_
  (simp only [AS,Ai,Al,Ac,LZ,seval])
  have zz:=C4 @Ah.eq_1 @dg.eq_1 @Cl.v.eq_1;exact Bf hx [0,1,2,3] ⟨rfl,rfl,rfl⟩
 rw [if_neg h2] at he
 have hP:Ag M 350 [.ptr 0 [],(c a).v,.bool df] [(0,Ai D l g s (.ptr 2 []) (.sl 1 [] 0 n 42))] 3 (Q3 (AS (W (Ks k i df)) (.int .i64 ((k + 1:Nat):Int)) .nili) [(0,Ai D l g s (.ptr 2 []) (.sl 1 [] 0 n 42))] 3):=by
  unfold Ks
  cases df with
  | true=>exact Gw ok.g D l g s n (c a) k i hk (by have:=Nat.lt_of_le_of_ne hi (fun h=>h2 ⟨rfl,h⟩);omega) hp h1
  | false=>exact GH ok.g D l g s n (c a) k i hk hi hp h1
 generalize hq:Ks k i df=q at *
 refine es 2000 ?_;(simp only [Ot,Ol,Gs.H,Ai,Al,Ac,Sw,Cl.v,Ap,Aq,A7,A4,LZ,seval])
 have zz:=GM @Ai.eq_1 @Al.eq_1 @Ac.eq_1 @Cl.v.eq_1 @dg.eq_1;refine Bw [0,1,2] [0] (hP) ?_
 (simp only [AS,Ai,Al,Ac,LZ,seval])
 refine Ak (hB) ?_
 by_cases h3:bd=BitVec.ofNat 64 (k + 2)
 case neg =>
  rw [if_pos h3] at he
  cases he
  (simp only [h3,LZ,seval])
  have zz:=C4 @Ah.eq_1 @dg.eq_1 @Cl.v.eq_1;exact Bf hx [0,1,2,3] ⟨rfl,rfl,rfl⟩
 rw [if_neg (fun h=>h h3)] at he
 have d3:(bd=BitVec.ofNat 64 (k + 2))=True:=eq_true h3
 (simp only [d3,LZ,seval])
 by_cases h4:∃ j,j < n∧M4 (Sw a v pl) q (c j)
 ·rw [if_pos h4] at he
  cases he
  have hC:=IB ok n hn c (clP a v pl q) q h4
  simp only [clP,Cl.v,Ac] at hC
  have zz:=@dg.eq_1;refine Ce (hC) ?_
  (simp only [LZ,seval])
  have zz:=C4 @Ah.eq_1 @dg.eq_1 @Cl.v.eq_1;exact Bf hx [0,1,2,3] ⟨rfl,rfl,rfl⟩
 rw [if_neg h4] at he
 have hC:=Fe ok n hn c (clP a v pl q) q h4
 simp only [clP,Cl.v,Ac] at hC
 have zz:=@dg.eq_1;refine Ce (hC) ?_
 (simp only [LZ,seval])
 have zz:=GM @Ai.eq_1 @Al.eq_1 @Ac.eq_1 @Cl.v.eq_1 @dg.eq_1;refine L9 [0,1,2] [0,1] (hF) ?_
 (simp only [Ai,Al,Ac,Cl.v,LZ,seval])
 by_cases h5:Gy (c a).us (c a).at' (CQ c (c a)) t
 ·rw [if_pos h5] at he
  cases he
  have hN:=Pn ok l g (c a).us (c a).at' (CQ c (c a)) t hr h5
  simp only [Ac] at hN
  have zz:=@dg.eq_1;refine G0 (hN) ?_
  (simp only [AH,seval])
  have zz:=C4 @Ah.eq_1 @dg.eq_1 @Cl.v.eq_1;exact Bf hx [0,1,2,3] ⟨rfl,rfl,rfl⟩
 rw [if_neg h5] at he
 by_cases h6:l≤CQ c (c a) + t - (c a).at'
 ·rw [if_pos h6] at he
  cases he
  have hN:=OV ok l g (c a).us (c a).at' (CQ c (c a)) t hr h5 h6
  simp only [Ac] at hN
  have zz:=@dg.eq_1;refine G0 (hN) ?_
  (simp only [AH,seval])
  have zz:=C4 @Ah.eq_1 @dg.eq_1 @Cl.v.eq_1;exact Bf hx [0,1,2,3] ⟨rfl,rfl,rfl⟩
 rw [if_neg h6] at he
 have hN:=I8 ok l g (c a).us (c a).at' (CQ c (c a)) t hr h5 h6
 simp only [Ac] at hN
 have zz:=@dg.eq_1;refine G0 (hN) ?_
 by_cases h7:64≤n
 ·rw [if_pos h7] at he
  cases he
  have d7:((64:Int)≤(n:Int))=True:=eq_true Aa
  (simp only [AH,d7,seval])
  have zz:=C4 @Ah.eq_1 @dg.eq_1 @Cl.v.eq_1;exact Bf hx [0,1,2,3] ⟨rfl,rfl,rfl⟩
 rw [if_neg h7] at he
 have d7:((64:Int)≤(n:Int))=False:=eq_false Aa
 (simp only [AH,d7,seval])
 by_cases h8:pl < 0 ∨ 8≤pl
 ·rw [if_pos h8] at he
  cases he
  have hL:=PA ok.g.l pl h8 bd
  refine obK [2] [] (hL) (by constructor <;> (try simp only [LY,seval]) <;> exact q1) (by simp only [LX]) ?_
  (simp only [AH,seval])
  have zz:=C4 @Ah.eq_1 @dg.eq_1 @Cl.v.eq_1;exact Bf hx [0,1,2,3] ⟨rfl,rfl,rfl⟩
 rw [if_neg h8] at he
 by_cases h9:b pl.toNat < bd
 ·rw [if_pos h9] at he
  cases he
  obtain ⟨p,rfl⟩:∃ p:Nat,pl=p:=⟨pl.toNat,by omega⟩
  rw [Int.toNat_natCast] at h9
  have hL:=OY ok.g.l b ii o (.sl 1 [] 0 n 2) 2 (.inr ⟨n,rfl,rfl⟩) kk p Aa bd h9
  have zz:=Bb @Aq.eq_1 @A4.eq_1;refine L9 [2,3] [2] (hL) ?_
  (simp only [AH,Aq,A4,seval])
  have zz:=C4 @Ah.eq_1 @dg.eq_1 @Cl.v.eq_1;exact Bf hx [0,1,2,3] ⟨rfl,rfl,rfl⟩
 rw [if_neg h9] at he
 cases he
def Gs.mv (G:Gs) (x:Cl) (p:Nat) (bd:BitVec 64):Gs:=⟨G.D,G.l,G.g,G.s,G.n + 1,fun j=>if j < G.n then G.c j else x,fun j=>if j=p then G.b p - bd else G.b j,G.i,G.o,G.k + bd,fun j=>if j < G.n then G.v j else bd,fun j=>if j < G.n then G.gv j else false⟩
def IE (G:Gs) (a:Nat) (df:Bool) (v:Dg) (pl:Int) (t:BitVec 64) (k i:Nat):Cl:=clN a v pl (Ks k i df) G.n (YI (CQ G.c (G.c a) + t - (G.c a).at') (G.l - G.g)) t
def Gs.H2 (G:Gs):Hp:=[(0,Ai G.D G.l G.g G.s (.ptr 2 []) (.sl 4 [] 0 G.n 42)),(2,Aq G.b G.i G.o (.sl 5 [] 0 G.n 2) G.k),(4,Ap G.n G.c),(5,A7 G.n G.v G.gv)]
theorem OE (ok:OkMv M) (G:Gs) (a:Nat) (df:Bool) (v:Dg) (pl:Int) (bd t:BitVec 64) (k i:Nat) (hn:G.n < 1000) (hr:Oa G.l G.g) (ha:a < G.n)
 (hk:k≤20) (hi:i < 2 ^ k) (hp:(G.c a).pos=pw k i) (hb:(G.c a).par < 0 ∨ ∃ p:Nat,(G.c a).par=p∧p < G.n) (he:Zs G a df v pl bd t k i=none) :
 Ag M 247 [.ptr 0 [],(Sw a v pl).v,(G.c a).v,.bool df,W bd,W t] G.H 4 (Q3 (Ah (.int .i64 (G.n:Int)) .nili) ((G.mv (IE G a df v pl t k i) pl.toNat bd).H2) 6):=by
 obtain ⟨D,l,g,s,n,c,b,ii,o,kk,vv,gv⟩:=G
 unfold IE
 dsimp only [Gs.mv] at *
 unfold Zs at he
 dsimp only at he
 have hF:=Dc ok.g D l g s n c (c a) hb
 have hB:=LQ ok.g k hk
 simp only [Ap] at hF
 by_cases h1:D≤k
 ·rw [if_pos h1] at he;cases he
 rw [if_neg h1] at he
 by_cases h2:df=true∧i + 1=2 ^ k
 ·rw [if_pos h2] at he;cases he
 rw [if_neg h2] at he
 have hP:Ag M 350 [.ptr 0 [],(c a).v,.bool df] [(0,Ai D l g s (.ptr 2 []) (.sl 1 [] 0 n 42))] 3 (Q3 (AS (W (Ks k i df)) (.int .i64 ((k + 1:Nat):Int)) .nili) [(0,Ai D l g s (.ptr 2 []) (.sl 1 [] 0 n 42))] 3):=by
  unfold Ks
  cases df with
  | true=>exact Gw ok.g D l g s n (c a) k i hk (by have:=Nat.lt_of_le_of_ne hi (fun h=>h2 ⟨rfl,h⟩);omega) hp h1
  | false=>exact GH ok.g D l g s n (c a) k i hk hi hp h1
 generalize hq:Ks k i df=q at *
 by_cases h3:bd=BitVec.ofNat 64 (k + 2)
 case neg=>rw [if_pos h3] at he;cases he
 rw [if_neg (fun h=>h h3)] at he
 have d3:(bd=BitVec.ofNat 64 (k + 2))=True:=eq_true h3
 by_cases h4:∃ j,j < n∧M4 (Sw a v pl) q (c j)
 ·rw [if_pos h4] at he;cases he
 rw [if_neg h4] at he
 have hC:=Fe ok n hn c (clP a v pl q) q h4
 simp only [clP,Cl.v,Ac] at hC
 by_cases h5:Gy (c a).us (c a).at' (CQ c (c a)) t
 ·rw [if_pos h5] at he;cases he
 rw [if_neg h5] at he
 by_cases h6:l≤CQ c (c a) + t - (c a).at'
 ·rw [if_pos h6] at he;cases he
 rw [if_neg h6] at he
 have hN:=I8 ok l g (c a).us (c a).at' (CQ c (c a)) t hr h5 h6
 simp only [Ac] at hN
 by_cases h7:64≤n
 ·rw [if_pos h7] at he;cases he
 rw [if_neg h7] at he
 have d7:((64:Int)≤(n:Int))=False:=eq_false Aa
 by_cases h8:pl < 0 ∨ 8≤pl
 ·rw [if_pos h8] at he;cases he
 rw [if_neg h8] at he
 by_cases h9:b pl.toNat < bd
 ·rw [if_pos h9] at he;cases he
 obtain ⟨p,rfl⟩:∃ p:Nat,pl=p:=⟨pl.toNat,by omega⟩
 rw [Int.toNat_natCast] at *
 have hL:=J6 ok.g.l b ii o kk p Aa bd h9 n hn (fun j=>A4 (vv j) (gv j)) (fun j=>⟨_,_,rfl⟩)
 generalize hu:YI (CQ c (c a) + t - (c a).at') (l - g)=u at *
 have z1:IntKind.i64.wrap (((n + 1:Nat):Int) - 1)=(n:Int):=AZ
 have z2:IntKind.i64.wrap ((n:Int) + 1)=((n + 1:Nat):Int):=AZ
 refine Ab ok.k247 rfl fun x hx=>?_
 refine es 2000 ?_;(simp only [Ot,Ol,Gs.H,Ai,Al,Ac,Sw,Cl.v,Ap,Aq,A7,A4,LZ,seval])
 have zz:=GM @Ai.eq_1 @Al.eq_1 @Ac.eq_1 @Cl.v.eq_1 @dg.eq_1;refine Bw [0,1,2] [0] (hP) ?_
 (simp only [AS,Ai,Al,Ac,LZ,seval])
 refine Ak (hB) ?_
 (simp only [d3,LZ,seval])
 have zz:=@dg.eq_1;refine Ce (hC) ?_
 (simp only [LZ,seval])
 have zz:=GM @Ai.eq_1 @Al.eq_1 @Ac.eq_1 @Cl.v.eq_1 @dg.eq_1;refine L9 [0,1,2] [0,1] (hF) ?_
 (simp only [Ai,Al,Ac,Cl.v,LZ,seval])
 have zz:=@dg.eq_1;refine G0 (hN) ?_
 (simp only [AH,d7,seval])
 have zz:=Bb @Aq.eq_1 @A4.eq_1;refine L9 [2,3] [2,3] (hL) ?_
 (simp only [AH,Aq,A4,z1,z2,Nat.testBit,List.map_nil,List.map_cons,B3,seval])
 repeat refine sd ?_
 refine Ar.mk hx [0,1,2,3,1988,1572] [] (Ah (.int .i64 (n:Int)) .nili) (Gs.H2 ⟨D,l,g,s,n + 1,fun j=>if j < n then c j else clN a v p q n u t,fun j=>if j=p then b p - bd else b j,ii,o,kk + bd,fun j=>if j < n then vv j else bd,fun j=>if j < n then gv j else false⟩) 6 Am (by (simp only [CU,seval])) (by simp only [LV,Ah,LY,seval]) ?_ ⟨rfl,rfl,rfl⟩
 simp only [Gs.H2,Ai,Al,Ac,Ap,Cl.v,clN,Aq,A7,A4,dg,LY,seval]
 (repeat' apply And.intro)
 all_goals
  intro j hj
  by_cases h:j < n
  ·simp only [h,if_true,V.ren,W,LY,seval]
  ·have h0:j - n=0:=Aa
   simp only [h,h0,CL,V.ren,W,LY,seval]
variable {M:Seat}
def Ia (p:BitVec 64):Nat:=Cu p - 1
def Wt (p:BitVec 64):Nat:=p.toNat - 2 ^ Ia p
def Ys (D:Nat) (p:BitVec 64):BitVec 64:=BitVec.ofNat 64 (Zp D (Ia p) (Wt p))
theorem Cr {k i:Nat} (hk:k≤24) (hi:i < 2 ^ k):Ia (pw k i)=k:=by rw [Ia,MI hk hi];omega
theorem Ej {k i:Nat} (hk:k≤24) (hi:i < 2 ^ k):Wt (pw k i)=i:=by rw [Wt,Cr hk hi,L2 hk hi];omega
theorem PU {D k i:Nat} (hk:k≤24) (hi:i < 2 ^ k):Ys D (pw k i)=BitVec.ofNat 64 (Zp D k i):=by rw [Ys,Cr hk hi,Ej hk hi]
structure OkGs (M:Seat):Prop where
 v:OkMv M
 c:OkCl M
 le:OkLe M
 k357:Au M 357 Abq=true
 k359:Au M 359 Aaj=true
 k454:Au M 454 Af5=true
 k356:Au M 356 Tw=true
theorem IL (ok:OkGs M) (d:Int) (l g:BitVec 64) (s:Dg) (n:Nat) (c:Nat→Cl) (q:Cl) (t:BitVec 64) (hc:Oa l g) (hq:q.par < 0 ∨ ∃ p:Nat,q.par=p∧p < n) (h:Gy q.us q.at' (CQ c q) t) :
 Ag M 357 [.ptr 0 [],q.v,W t] [(0,Ai d l g s (.ptr 2 []) (.sl 1 [] 0 n 42)),(1,Ap n c)] 3 (Q3 (Ah (.bool false) (er 2)) [(0,Ai d l g s (.ptr 2 []) (.sl 1 [] 0 n 42)),(1,Ap n c)] 3):=by
 have hF:=Dc ok.v.g d l g s n c q hq
 have hO:=PI ok.c l g q.us q.at' (CQ c q) t hc h
 generalize CQ c q=u at *
 refine Ab ok.k357 rfl fun x hx=>?_
 refine es 2000 ?_;(simp only [Abq,Aan,Ai,Al,Ac,Cl.v,Ap,LZ,seval])
 have zz:=Db @Ai.eq_1 @Al.eq_1 @Ac.eq_1 @Cl.v.eq_1 @Ap.eq_1 @dg.eq_1;refine L9 [0,1,2] [0,1] (hF) ?_
 (simp only [Ai,Al,Ac,Cl.v,Ap,LZ,seval])
 have zz:=@Ac.eq_1;refine G0 (hO) ?_
 (simp only [AH,seval])
 have zz:=C4 @Ah.eq_1 @dg.eq_1 @Cl.v.eq_1;exact Bf hx [0,1,2] ⟨rfl,rfl,rfl⟩
theorem J8 (ok:OkGs M) (d:Int) (l g:BitVec 64) (s:Dg) (n:Nat) (c:Nat→Cl) (q:Cl) (t:BitVec 64) (hc:Oa l g) (hq:q.par < 0 ∨ ∃ p:Nat,q.par=p∧p < n) (h:¬ Gy q.us q.at' (CQ c q) t) :
 Ag M 357 [.ptr 0 [],q.v,W t] [(0,Ai d l g s (.ptr 2 []) (.sl 1 [] 0 n 42)),(1,Ap n c)] 3 (Q3 (Ah (.bool (decide (l≤CQ c q + t - q.at'))) .nili) [(0,Ai d l g s (.ptr 2 []) (.sl 1 [] 0 n 42)),(1,Ap n c)] 3):=by
 have hF:=Dc ok.v.g d l g s n c q hq
 have hO:=PG ok.c l g q.us q.at' (CQ c q) t hc h
 generalize CQ c q=u at *
 refine Ab ok.k357 rfl fun x hx=>?_
 refine es 2000 ?_;(simp only [Abq,Aan,Ai,Al,Ac,Cl.v,Ap,LZ,seval])
 have zz:=Db @Ai.eq_1 @Al.eq_1 @Ac.eq_1 @Cl.v.eq_1 @Ap.eq_1 @dg.eq_1;refine L9 [0,1,2] [0,1] (hF) ?_
 (simp only [Ai,Al,Ac,Cl.v,Ap,LZ,seval])
 have zz:=@Ac.eq_1;refine G0 (hO) ?_
 (simp only [AH,seval])
 have zz:=C4 @Ah.eq_1 @dg.eq_1 @Cl.v.eq_1;exact Bf hx [0,1,2] ⟨rfl,rfl,rfl⟩
def Sx (D:Nat) (c:Nat→Cl) (t:BitVec 64):Nat→Int→Option Nat
 | 0,_=>none
 | f + 1,a=>if a < 0 then none else if Ys D (c a.toNat).pos=t then some a.toNat else Sx D c t f (c a.toNat).par
def Pls (D n:Nat) (c:Nat→Cl):Prop:=∀ j,j < n→∃ k i,k≤D∧i < 2 ^ k∧(c j).pos=pw k i
def Prs (n:Nat) (c:Nat→Cl):Prop:=∀ j,j < n→(c j).par = -1 ∨ ∃ p:Nat,(c j).par=p∧p < j
def Yt (c:Nat→Cl) (o:Option Nat):V:=match o with
 | some j=>Ah (c j).v (.bool true)
 | none=>Ah Cl.zero.v (.bool false)
theorem HJ (ok:OkGs M) (D:Nat) (hD:D≤20) (l g:BitVec 64) (s:Dg) (n:Nat) (c:Nat→Cl) (hp:Pls D n c) (hr:Prs n c) (a:Nat) (ha:a < n) (t:BitVec 64) :
 Ag M 454 [.ptr 0 [],.int .i64 a,W t] [(0,Ai D l g s (.ptr 2 []) (.sl 1 [] 0 n 42)),(1,Ap n c)] 3 (Q3 (Yt c (Sx D c t (a + 1) a)) [(0,Ai D l g s (.ptr 2 []) (.sl 1 [] 0 n 42)),(1,Ap n c)] 3):=by
 generalize hR:Sx D c t (a + 1) a=R
 refine Ab ok.k454 rfl fun x hx=>?_
 refine es 2000 ?_;(simp only [Af5,Agc,Ai,Al,Ac,Ap,LZ,seval])
 refine An (σ:=Int) (fun b=>(b = -1 ∨ ∃ p:Nat,b=p∧p < n)∧∃ f,(b + 1).toNat≤f∧Sx D c t f b=R) (fun b=>fr 54 [(0,.ptr 0 []),(2,W t),(6,.ptr 3 []),(7,.bool false),(8,.int .i64 b)]) (fun _=>[(0,Ai D l g s (.ptr 2 []) (.sl 1 [] 0 n 42)),(1,Ap n c),(3,Cl.zero.v)]) (fun _=>4) (fun b=>(b + 1).toNat) a ⟨.inr ⟨a,rfl,ha⟩,a + 1,by omega,hR⟩ ?_ ?_
 ·refine Ao.fr [0,1,2,3] [] hx AQ Am ?_ ?_
  all_goals simp only [Ai,Al,Ac,Ap,Cl.v,Cl.zero,dg,implies_true,LY,seval]
 ·intro b ⟨hb,f,hf,hfb⟩
  refine es 2000 ?_
  rcases hb with rfl | ⟨p,rfl,hpn⟩
  ·have d0:(0≤(-1:Int))=False:=eq_false Aa
   have hR:R=none:=by
    cases f with
    | zero=>exact hfb.symm
    | succ f=>rw [Sx,if_pos Aa] at hfb;exact hfb.symm
   subst hR
   (simp only [d0,Cl.zero,Cl.v,Ac,LZ,seval])
   repeat refine sd ?_
   have zz:=Ho @Yt.eq_1 @Yt.eq_2 @Ah.eq_1 @Cl.zero.eq_1 @Cl.v.eq_1 @Ac.eq_1 @Ap.eq_1 @Ai.eq_1 @Al.eq_1 @dg.eq_1;exact Bf hx [0,1,2] ⟨rfl,rfl,rfl⟩
  ·obtain ⟨k,i,hk,hi,hpos⟩:=hp p hpn
   have hT:=FA ok.v.g.p ok.k359 (show D≤24 by omega) hk hi
   have d0:(0≤(p:Int))=True:=eq_true Aa
   have d1:((p:Int) < (n:Int))=True:=eq_true Aa
   have hpar:=hr p hpn
   obtain ⟨f,rfl⟩:∃ f',f=f' + 1:=⟨f - 1,by omega⟩
   rw [Sx,if_neg Aa,Int.toNat_natCast,hpos,PU Aa hi] at hfb
   generalize BitVec.ofNat 64 (Zp D k i)=w at *
   (simp only [d0,d1,Ai,Al,Ac,Ap,Cl.v,hpos,LZ,seval])
   repeat refine sd ?_
   refine Bq (hT) ?_
   by_cases hw:w=t
   ·rw [if_pos hw] at hfb
    subst hfb
    (simp only [AH,hw,d0,d1,Ai,Al,Ac,Ap,Cl.v,hpos,seval])
    repeat refine sd ?_
    have zz:=Ho @Yt.eq_1 @Yt.eq_2 @Ah.eq_1 @Cl.v.eq_1 @Ac.eq_1 @Ap.eq_1 @Ai.eq_1 @Al.eq_1 @dg.eq_1 hpos;exact Bf hx [0,1,2] ⟨rfl,rfl,rfl⟩
   ·rw [if_neg hw] at hfb
    have hw:=eq_false hw
    (simp only [AH,hw,d0,d1,Ai,Al,Ac,Ap,Cl.v,hpos,seval])
    repeat refine sd ?_
    have e1:((p:Int) + 1).toNat=p + 1:=rfl
    rw [e1] at hf
    have e2:((c p).par + 1).toNat≤p:=by
     rcases hpar with h | ⟨q,h,h1⟩
     ·rw [h];exact Nat.zero_le _
     ·rw [h];exact h1
    refine ⟨(c p).par,hpar.imp_right (fun ⟨q,h,h1⟩=>⟨q,h,by omega⟩),⟨f,by omega,hfb⟩,by rw [e1];omega,?_⟩
    refine Ao.fr [0,1,2,3] [] hx AQ Am ?_ ?_
    all_goals simp only [Ai,Al,Ac,Ap,Cl.v,Cl.zero,dg,hpos,implies_true,LY,seval]
end Mv
