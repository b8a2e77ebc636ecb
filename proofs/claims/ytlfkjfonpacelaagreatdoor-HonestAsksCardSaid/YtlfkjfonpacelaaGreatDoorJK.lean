/- A part. -/
import Derived.Test.YtlfkjfonpacelaaGreatDoorJJ
set_option linter.all false
set_option maxRecDepth 20000
set_option maxHeartbeats 16000000
namespace Mv
open Go
variable {M:Seat}
def Au (n:Nat) (c:Nat→Cl):V:=.ar 42 n fun j=>(c j).v
theorem KQ (ok:OkGm M) (d:Int) (l g:BitVec 64) (s:Dg) (n:Nat) (a:Int) (ha:a < 0 ∨ (n:Int)≤a) :
 Ae M 246 [.ptr 0 [],.int .i64 a] [(0,As d l g s (.ptr 2 []) (.sl 1 [] 0 n 42))] 3 (Q3 (Ai Cl.zero.v (.ifc 145 (.ptr 3 []))) [(0,As d l g s (.ptr 2 []) (.sl 1 [] 0 n 42)),(3,Ex a 4)] 4):=by
 have hA:=I2 ok a 4;refine Ab ok.n.k246 rfl fun x hx=>?_;by_cases h0:a < 0
 ·refine eX ?_;simp only [YM,XX,As,Av,Ad,h0,LZ,seval];have zz:=@l8;refine Jp (hA) ?_;simp only [Ex,LZ,seval];refine Ap.mk hx [0,1,2,323] [] (Ai Cl.zero.v (.ifc 145 (.ptr 3 []))) [(0,As d l g s (.ptr 2 []) (.sl 1 [] 0 n 42)),(3,Ex a 4)] 4 Al (by (simp only [Di,seval])) (by simp only [LV,Bb,Cl.v,Cl.zero,Ad,dg,seval,LY]) (by simp only [As,Av,Ad,Ex,dg,LY,seval]) ⟨rfl,rfl,rfl⟩
 ·have h1:(n:Int)≤a:=ha.resolve_left h0;refine eX ?_;simp only [YM,XX,As,Av,Ad,h0,h1,LZ,seval];have zz:=@l8;refine Jp (hA) ?_;simp only [Ex,LZ,seval];refine Ap.mk hx [0,1,2,323] [] (Ai Cl.zero.v (.ifc 145 (.ptr 3 []))) [(0,As d l g s (.ptr 2 []) (.sl 1 [] 0 n 42)),(3,Ex a 4)] 4 Al (by (simp only [Di,seval])) (by simp only [LV,Bb,Cl.v,Cl.zero,Ad,dg,seval,LY]) (by simp only [As,Av,Ad,Ex,dg,LY,seval]) ⟨rfl,rfl,rfl⟩
theorem L2 (ok:OkGm M) (d:Int) (l g:BitVec 64) (s:Dg) (n:Nat) (c:Nat→Cl) (a:Nat) (ha:a < n) (hr:(c a).rs=true) :
 Ae M 246 [.ptr 0 [],.int .i64 a] [(0,As d l g s (.ptr 2 []) (.sl 1 [] 0 n 42)),(1,Au n c)] 3 (Q3 (Ai Cl.zero.v (.ifc 145 (.ptr 3 []))) [(0,As d l g s (.ptr 2 []) (.sl 1 [] 0 n 42)),(1,Au n c),(3,Ex a 43)] 4):=by
 have hA:=I2 ok a 43;have d0:((a:Int) < 0)=False:=eq_false Aa;have d1:((n:Int)≤(a:Int))=False:=eq_false Aa;have d2:((a:Int) < (n:Int))=True:=eq_true Aa;have d3:(0≤(a:Int))=True:=eq_true Aa;refine Ab ok.n.k246 rfl fun x hx=>?_;refine eX ?_;simp only [YM,XX,As,Av,Ad,Au,Cl.v,hr,d0,d1,d2,d3,LZ,seval];repeat refine sd ?_
 have zz:=@l8;refine Jp (hA) ?_;simp only [Ex,LZ,seval];refine Ap.mk hx [0,1,2,467] [] (Ai Cl.zero.v (.ifc 145 (.ptr 3 []))) [(0,As d l g s (.ptr 2 []) (.sl 1 [] 0 n 42)),(1,Au n c),(3,Ex a 43)] 4 Al (by (simp only [Di,seval])) (by simp only [LV,Bb,Cl.v,Cl.zero,Ad,dg,seval,LY]) (by simp only [As,Av,Ad,Au,Cl.v,Ex,dg,LY,seval]) ⟨rfl,rfl,rfl⟩
theorem HH (ok:OkGm M) (d:Int) (l g:BitVec 64) (s:Dg) (n:Nat) (c:Nat→Cl) (a:Nat) (ha:a < n) (hr:(c a).rs=false) :
 Ae M 246 [.ptr 0 [],.int .i64 a] [(0,As d l g s (.ptr 2 []) (.sl 1 [] 0 n 42)),(1,Au n c)] 3 (Q3 (Ai (c a).v .nili) [(0,As d l g s (.ptr 2 []) (.sl 1 [] 0 n 42)),(1,Au n c)] 3):=by
 have d0:((a:Int) < 0)=False:=eq_false Aa;have d1:((n:Int)≤(a:Int))=False:=eq_false Aa;have d2:((a:Int) < (n:Int))=True:=eq_true Aa;have d3:(0≤(a:Int))=True:=eq_true Aa;refine Ab ok.n.k246 rfl fun x hx=>?_;refine eX ?_;simp only [YM,XX,As,Av,Ad,Au,Cl.v,hr,d0,d1,d2,d3,LZ,seval];repeat refine sd ?_
 have zz:=AY @d9 @b7;exact AI hx [0,1,2] ⟨rfl,rfl,rfl⟩
def Hq (c:Nat→Cl) (q:Cl):BitVec 64:=if q.par < 0 then 0#64 else (c q.par.toNat).us
theorem Ey (ok:OkGm M) (d:Int) (l g:BitVec 64) (s:Dg) (n:Nat) (c:Nat→Cl) (q:Cl) (hq:q.par < 0 ∨ ∃ p:Nat,q.par=p∧p < n) :
 Ae M 354 [.ptr 0 [],q.v] [(0,As d l g s (.ptr 2 []) (.sl 1 [] 0 n 42)),(1,Au n c)] 3 (Q3 (W (Hq c q)) [(0,As d l g s (.ptr 2 []) (.sl 1 [] 0 n 42)),(1,Au n c)] 3):=by
 unfold Hq;refine Ab ok.k354 rfl fun x hx=>?_;rcases hq with h0 | ⟨p,hp,hn⟩
 ·rw [if_pos h0];refine eX ?_;simp only [Aj6,Anp,As,Av,Ad,Au,Cl.v,h0,LZ,seval];have zz:=@b7;exact AI hx [0,1,2] ⟨rfl,rfl,rfl⟩
 ·have d0:((p:Int) < 0)=False:=eq_false Aa;have d2:((p:Int) < (n:Int))=True:=eq_true Aa;have d3:(0≤(p:Int))=True:=eq_true Aa;rw [hp,if_neg Aa,Int.toNat_natCast];refine eX ?_;simp only [Aj6,Anp,As,Av,Ad,Au,Cl.v,hp,d0,d2,d3,LZ,seval];repeat refine sd ?_
  have zz:=@b7;exact AI hx [0,1,2] ⟨rfl,rfl,rfl⟩
def f7:=@Au.eq_1
variable {M:Seat}
theorem QP (ok:OkGm M) (D:Nat) (l g:BitVec 64) (s:Dg) (n:Nat) (q:Cl) (k i:Nat) (hk:k≤20) (hi:i < 2 ^ k) (hq:q.pos=pw k i) (hD:D≤k) (df:Bool) :
 Ae M 350 [.ptr 0 [],q.v,.bool df] [(0,As D l g s (.ptr 2 []) (.sl 1 [] 0 n 42))] 3 (Q3 (B0 (W 0#64) (.int .i64 0) (er 45)) [(0,As D l g s (.ptr 2 []) (.sl 1 [] 0 n 42))] 3):=by
 refine Ab ok.k350 rfl fun x hx=>?_;have d0:((D:Int)≤(k:Int))=True:=eq_true Aa;refine eX ?_;simp only [XP,Abk,As,Av,Ad,Cl.v,hq,LZ,seval];refine Aj (Bv ok.p (show k≤24 by omega) hi) ?_;simp only [B0,d0,LZ,seval];have zz:=AY @l5 @b7;exact AI hx [0,1,2] ⟨rfl,rfl,rfl⟩
theorem IF (ok:OkGm M) (D:Nat) (l g:BitVec 64) (s:Dg) (n:Nat) (q:Cl) (k i:Nat) (hk:k≤20) (hi:i < 2 ^ k) (hq:q.pos=pw k i) (hD:¬ D≤k) :
 Ae M 350 [.ptr 0 [],q.v,.bool false] [(0,As D l g s (.ptr 2 []) (.sl 1 [] 0 n 42))] 3 (Q3 (B0 (W (pw (k + 1) (2 * i))) (.int .i64 ((k + 1:Nat):Int)) .nili) [(0,As D l g s (.ptr 2 []) (.sl 1 [] 0 n 42))] 3):=by
 refine Ab ok.k350 rfl fun x hx=>?_;have d0:((D:Int)≤(k:Int))=False:=eq_false Aa;have z1:IntKind.i64.wrap ((k:Int) + 1)=((k + 1:Nat):Int):=AW;refine eX ?_;simp only [XP,Abk,As,Av,Ad,Cl.v,hq,LZ,seval];refine Aj (Bv ok.p (show k≤24 by omega) hi) ?_;simp only [B0,d0,LZ,seval];refine Aj (Ek ok.p (show k < 24 by omega) hi) ?_;simp only [Bb,z1,seval];have zz:=AY @l5 @b7;exact AI hx [0,1,2] ⟨rfl,rfl,rfl⟩
theorem Io (ok:OkGm M) (D:Nat) (l g:BitVec 64) (s:Dg) (n:Nat) (q:Cl) (k i:Nat) (hk:k≤20) (hi:i + 1 < 2 ^ k) (hq:q.pos=pw k i) (hD:¬ D≤k) :
 Ae M 350 [.ptr 0 [],q.v,.bool true] [(0,As D l g s (.ptr 2 []) (.sl 1 [] 0 n 42))] 3 (Q3 (B0 (W (pw (k + 1) (2 * i + 2))) (.int .i64 ((k + 1:Nat):Int)) .nili) [(0,As D l g s (.ptr 2 []) (.sl 1 [] 0 n 42))] 3):=by
 refine Ab ok.k350 rfl fun x hx=>?_;have d0:((D:Int)≤(k:Int))=False:=eq_false Aa;have z1:IntKind.i64.wrap ((k:Int) + 1)=((k + 1:Nat):Int):=AW;have hi':i < 2 ^ k:=Aa;refine eX ?_;simp only [XP,Abk,As,Av,Ad,Cl.v,hq,LZ,seval];refine Aj (Bv ok.p (show k≤24 by omega) hi') ?_;simp only [B0,d0,LZ,seval];refine Aj (Ek ok.p (show k < 24 by omega) hi') ?_;simp only [Bb,seval];refine Aj (Gt ok.p (show k < 24 by omega) hi) ?_;simp only [Bb,z1,seval];have zz:=AY @l5 @b7;exact AI hx [0,1,2] ⟨rfl,rfl,rfl⟩
theorem RD (ok:OkGm M) (D:Nat) (l g:BitVec 64) (s:Dg) (n:Nat) (q:Cl) (k:Nat) (hk:k≤20) (hq:q.pos=pw k (2 ^ k - 1)) (hD:¬ D≤k) :
 Ae M 350 [.ptr 0 [],q.v,.bool true] [(0,As D l g s (.ptr 2 []) (.sl 1 [] 0 n 42))] 3 (Q3 (B0 (W 0#64) (.int .i64 ((k + 1:Nat):Int)) (er 45)) [(0,As D l g s (.ptr 2 []) (.sl 1 [] 0 n 42))] 3):=by
 refine Ab ok.k350 rfl fun x hx=>?_;have d0:((D:Int)≤(k:Int))=False:=eq_false Aa;have z1:IntKind.i64.wrap ((k:Int) + 1)=((k + 1:Nat):Int):=AW;have hi':2 ^ k - 1 < 2 ^ k:=by have:=UO (show k≤24 by omega);omega
 refine eX ?_;simp only [XP,Abk,As,Av,Ad,Cl.v,hq,LZ,seval];refine Aj (Bv ok.p (show k≤24 by omega) hi') ?_;simp only [B0,d0,LZ,seval];refine Aj (Ek ok.p (show k < 24 by omega) hi') ?_;simp only [Bb,seval];refine Aj (Hm ok.p (show k < 24 by omega)) ?_;simp only [Bb,z1,seval];have zz:=AY @l5 @b7;exact AI hx [0,1,2] ⟨rfl,rfl,rfl⟩
def PA (X:Cl) (q:BitVec 64) (y:Cl):Prop:=y.par=X.par∧y.pos=q∧y.val=X.val
instance (X:Cl) (q:BitVec 64) (y:Cl):Decidable (PA X q y):=by unfold PA;infer_instance
theorem KS (ok:OkMv M) (y X:Cl) (q:BitVec 64):Ae M 352 [y.v,.imm X.v,.imm (W q)] [] 0 (Q3 (.bool (decide (PA X q y))) [] 0):=by
 refine Ab ok.k352 rfl fun x hx=>?_;by_cases h1:y.par=X.par
 ·by_cases h2:y.pos=q
  ·by_cases h3:y.val=X.val
   ·have e:decide (PA X q y)=true:=decide_eq_true ⟨h1,h2,h3⟩;rw [e];refine eX ?_;simp only [Aa7,Abh,Cl.v,Ad,h1,h2,h3,LZ,seval];exact Ap.mkZ hx [] ⟨rfl,rfl,rfl⟩
   ·have e:decide (PA X q y)=false:=decide_eq_false fun h=>h3 h.2.2;rw [e];refine eX ?_;simp only [Aa7,Abh,Cl.v,Ad,h1,h2,h3,LZ,seval];exact Ap.mkZ hx [] ⟨rfl,rfl,rfl⟩
  ·have e:decide (PA X q y)=false:=decide_eq_false fun h=>h2 h.2.1;rw [e];refine eX ?_;simp only [Aa7,Abh,Cl.v,Ad,h1,h2,LZ,seval];exact Ap.mkZ hx [] ⟨rfl,rfl,rfl⟩
 ·have e:decide (PA X q y)=false:=decide_eq_false fun h=>h1 h.1;rw [e];refine eX ?_;simp only [Aa7,Abh,Cl.v,Ad,h1,LZ,seval];exact Ap.mkZ hx [] ⟨rfl,rfl,rfl⟩
theorem Rz (ok:OkMv M) (n:Nat) (hn:n < 1000) (c:Nat→Cl) (X:Cl) (q:BitVec 64) (j0:Nat) (hj:j0 < n) (hs:PA X q (c j0)) (hno:∀ j,j < j0→¬ PA X q (c j)) :
 Ae M 452 [.lst 42 n (fun j=>(c j).v),.fn 352 (.st 2 (.fcons 0 (.imm X.v) (.fcons 1 (.imm (W q)) .fnil)))] [] 0 (Q3 (.int .i64 j0) [] 0):=by
 refine Ab ok.k452 rfl fun x hx=>?_;refine eX ?_;simp only [Aof,Ai4,LZ,seval];refine Am (σ:=Nat) (fun i=>i≤j0) (fun i=>fr 19 [(8,.int .i64 i),(7,.int .i64 n),(1,.fn 352 (.st 2 (.fcons 0 (.imm X.v) (.fcons 1 (.imm (W q)) .fnil)))),(0,.lst 42 n fun j=>(c j).v)]) (fun _=>[]) (fun _=>0) (fun i=>j0 - i) 0 Aa ?_ ?_
 ·refine Ak.fr [] [] hx AG Al ?_ ?_;all_goals simp only [Int.natCast_zero,Cl.v,Ad,dg,implies_true,LY,seval]
 ·intro i hi;refine eX ?_;have d0:((i:Int) < (n:Int))=True:=eq_true Aa;have d2:(0≤(i:Int))=True:=eq_true Aa;have hS:=KS ok (c i) X q;have z0:IntKind.i64.wrap ((i:Int) + 1)=((i + 1:Nat):Int):=AW;simp only [d0,d2,LZ,seval];repeat refine sd ?_
  refine Aiq ok.fn352 rfl rfl ?_;by_cases h0:i=j0
  ·subst h0;rw [decide_eq_true hs] at hS;have zz:=Cv @b8 @b9 @b7;refine Dh (hS) ?_;simp only [LZ,seval];exact Ap.mkZ hx [] ⟨rfl,rfl,rfl⟩
  ·rw [decide_eq_false (hno i Aa)] at hS;have zz:=Cv @b8 @b9 @b7;refine Dh (hS) ?_;simp only [z0,LZ,seval];refine ⟨i + 1,by omega,by omega,?_⟩;refine Ak.fr [] [] hx AG Al ?_ ?_;all_goals simp only [Cl.v,Ad,dg,implies_true,LY,seval]
theorem Qz (ok:OkMv M) (n:Nat) (hn:n < 1000) (c:Nat→Cl) (X:Cl) (q:BitVec 64) (hno:∀ j,j < n→¬ PA X q (c j)) :
 Ae M 452 [.lst 42 n (fun j=>(c j).v),.fn 352 (.st 2 (.fcons 0 (.imm X.v) (.fcons 1 (.imm (W q)) .fnil)))] [] 0 (Q3 (.int .i64 (-1)) [] 0):=by
 refine Ab ok.k452 rfl fun x hx=>?_;refine eX ?_;simp only [Aof,Ai4,LZ,seval];refine Am (σ:=Nat) (fun i=>i≤n) (fun i=>fr 19 [(8,.int .i64 i),(7,.int .i64 n),(1,.fn 352 (.st 2 (.fcons 0 (.imm X.v) (.fcons 1 (.imm (W q)) .fnil)))),(0,.lst 42 n fun j=>(c j).v)]) (fun _=>[]) (fun _=>0) (fun i=>n - i) 0 Aa ?_ ?_
 ·refine Ak.fr [] [] hx AG Al ?_ ?_;all_goals simp only [Int.natCast_zero,Cl.v,Ad,dg,implies_true,LY,seval]
 ·intro i hi;refine eX ?_;by_cases h0:i=n
  ·subst h0;have d0:((i:Int) < (i:Int))=False:=eq_false Aa;simp only [d0,LZ,seval];exact Ap.mkZ hx [] ⟨rfl,rfl,rfl⟩
  ·have d0:((i:Int) < (n:Int))=True:=eq_true Aa;have d2:(0≤(i:Int))=True:=eq_true Aa;have hS:=KS ok (c i) X q;rw [decide_eq_false (hno i Aa)] at hS;have z0:IntKind.i64.wrap ((i:Int) + 1)=((i + 1:Nat):Int):=AW;simp only [d0,d2,LZ,seval];repeat refine sd ?_
   refine Aiq ok.fn352 rfl rfl ?_;have zz:=Cv @b8 @b9 @b7;refine Dh (hS) ?_;simp only [z0,LZ,seval];refine ⟨i + 1,by omega,by omega,?_⟩;refine Ak.fr [] [] hx AG Al ?_ ?_;all_goals simp only [Cl.v,Ad,dg,implies_true,LY,seval]
theorem Ao4 {P:Nat→Prop} (j:Nat) (h:P j):∃ i,i≤j∧P i∧∀ k,k < i→¬ P k:=by
 induction j using Nat.strongRecOn with
 | _ j ih =>
   by_cases h0:∃ k,k < j∧P k
   ·obtain ⟨k,hk,hp⟩:=h0;obtain ⟨i,hi,hp,hno⟩:=ih k hk hp;exact ⟨i,by omega,hp,hno⟩
   ·exact ⟨j,Nat.le_refl _,h,fun k hk hp=>h0 ⟨k,hk,hp⟩⟩
theorem La (ok:OkMv M) (n:Nat) (hn:n < 1000) (c:Nat→Cl) (X:Cl) (q:BitVec 64) (h:∃ j,j < n∧PA X q (c j)) :
 Ae M 351 [.lst 42 n (fun j=>(c j).v),.fn 352 (.st 2 (.fcons 0 (.imm X.v) (.fcons 1 (.imm (W q)) .fnil)))] [] 0 (Q3 (.bool true) [] 0):=by
 obtain ⟨j,hj,hs⟩:=h;obtain ⟨j0,hj0,hs0,hno⟩:=Ao4 (P:=fun j=>PA X q (c j)) j hs;have h:=Rz ok n hn c X q j0 Aa hs0 hno;refine Ab ok.k351 rfl fun x hx=>?_;have d2:(0≤(j0:Int))=True:=eq_true Aa;refine eX ?_;simp only [Am4,Alt,LZ,seval];have zz:=Cv @b8 @b9 @b7;refine Dh (h) ?_;simp only [d2,LZ,seval];exact Ap.mkZ hx [] ⟨rfl,rfl,rfl⟩
theorem Gx (ok:OkMv M) (n:Nat) (hn:n < 1000) (c:Nat→Cl) (X:Cl) (q:BitVec 64) (h:¬ ∃ j,j < n∧PA X q (c j)) :
 Ae M 351 [.lst 42 n (fun j=>(c j).v),.fn 352 (.st 2 (.fcons 0 (.imm X.v) (.fcons 1 (.imm (W q)) .fnil)))] [] 0 (Q3 (.bool false) [] 0):=by
 have h:=Qz ok n hn c X q (fun j hj hs=>h ⟨j,hj,hs⟩);refine Ab ok.k351 rfl fun x hx=>?_;refine eX ?_;simp only [Am4,Alt,LZ,seval];have zz:=Cv @b8 @b9 @b7;refine Dh (h) ?_;simp only [LZ,seval];exact Ap.mkZ hx [] ⟨rfl,rfl,rfl⟩
variable {M:Seat}
structure Gs where
 D:Nat
 l:BitVec 64
 g:BitVec 64
 s:Dg
 n:Nat
 c:Nat→Cl
 b:Nat→BitVec 64
 i:BitVec 64
 o:BitVec 64
 k:BitVec 64
 v:Nat→BitVec 64
 gv:Nat→Bool
def AQ (n:Nat) (v:Nat→BitVec 64) (g:Nat→Bool):V:=.ar 2 n fun j=>AM (v j) (g j)
def Gs.H (G:Gs):Hp:=[(0,As G.D G.l G.g G.s (.ptr 2 []) (.sl 1 [] 0 G.n 42)),(1,Au G.n G.c),(2,A6 G.b G.i G.o (.sl 3 [] 0 G.n 2) G.k),(3,AQ G.n G.v G.gv)]
def WN (a:Nat) (v:Dg) (pl:Int):Cl:=⟨a,0#64,v,pl,0,0#64,0#64,false,false,false,pl⟩
def clP (a:Nat) (v:Dg) (pl:Int) (q:BitVec 64):Cl:=⟨a,q,v,pl,0,0#64,0#64,false,false,false,pl⟩
def clN (a:Nat) (v:Dg) (pl:Int) (q:BitVec 64) (n:Nat) (u t:BitVec 64):Cl:=⟨a,q,v,pl,n,u,t,false,false,false,pl⟩
def P9 (k i:Nat) (df:Bool):BitVec 64:=if df=true then pw (k + 1) (2 * i + 2) else pw (k + 1) (2 * i)
instance (u a b n:BitVec 64):Decidable (KA u a b n):=by unfold KA;infer_instance
def mvE (G:Gs) (a:Nat) (df:Bool) (v:Dg) (pl:Int) (bd t:BitVec 64) (k i:Nat):Option Int :=
 if G.D≤k then some 45
 else if df=true∧i + 1=2 ^ k then some 45
 else if ¬ bd=BitVec.ofNat 64 (k + 2) then some 40
 else if ∃ j,j < G.n∧PA (WN a v pl) (P9 k i df) (G.c j) then some 41
 else if KA (G.c a).us (G.c a).at' (Hq G.c (G.c a)) t then some 2
 else if G.l≤Hq G.c (G.c a) + t - (G.c a).at' then some 42
 else if 64≤G.n then some 5
 else if pl < 0 ∨ 8≤pl then some 2
 else if G.b pl.toNat < bd then some 21
 else none
theorem Ur (ok:OkGm M) (k:Nat) (hk:k≤20):Ae M 120 [.int .i64 ((k + 1:Nat):Int)] [] 0 (Q3 (W (BitVec.ofNat 64 (k + 2))) [] 0):=by
 have hB:=Jw ok.n ((k + 1:Nat):Int);rw [if_neg Aa] at hB;have:BitVec.ofInt 64 ((k + 1:Nat):Int) + 1#64=BitVec.ofNat 64 (k + 2):=by
  rw [BitVec.ofInt_natCast,show k + 2=k + 1 + 1 by omega,BitVec.ofNat_add (k + 1)]
 rw [this] at hB;exact hB
theorem Tg (ok:OkMv M) (G:Gs) (a:Nat) (df:Bool) (v:Dg) (pl:Int) (bd t:BitVec 64) (k i:Nat) (hn:G.n < 1000) (hr:RY G.l G.g) (ha:a < G.n)
 (hk:k≤20) (hi:i < 2 ^ k) (hp:(G.c a).pos=pw k i) (hb:(G.c a).par < 0 ∨ ∃ p:Nat,(G.c a).par=p∧p < G.n) (z:Int) (he:mvE G a df v pl bd t k i=some z) :
 Ae M 247 [.ptr 0 [],(WN a v pl).v,(G.c a).v,.bool df,W bd,W t] G.H 4 (Q3 (Ai (.int .i64 0) (er z)) G.H 4):=by
 obtain ⟨D,l,g,s,n,c,b,ii,o,kk,vv,gv⟩:=G;dsimp only at *
 unfold mvE at he;dsimp only at he;have hF:=Ey ok.g D l g s n c (c a) hb;have hB:=Ur ok.g k hk;simp only [Au] at hF;refine Ab ok.k247 rfl fun x hx=>?_;by_cases h1:D≤k
 ·rw [if_pos h1] at he;cases he;have hP:=QP ok.g D l g s n (c a) k i hk hi hp h1 df;refine eX ?_;simp only [Ab8,Y5,Gs.H,As,Av,Ad,WN,Cl.v,Au,A6,AQ,AM,LZ,seval];have zz:=Em @c9 @c8 @b9 @b8 @b7;refine By [0,1,2] [0] (hP) ?_;simp only [B0,As,Av,Ad,LZ,seval];have zz:=Cv @d9 @b7 @b8;exact AI hx [0,1,2,3] ⟨rfl,rfl,rfl⟩
 rw [if_neg h1] at he;by_cases h2:df=true∧i + 1=2 ^ k
 ·rw [if_pos h2] at he;cases he;obtain ⟨rfl,h2⟩:=h2;have hP:=RD ok.g D l g s n (c a) k hk (by rw [hp,show i=2 ^ k - 1 by omega]) h1;refine eX ?_;simp only [Ab8,Y5,Gs.H,As,Av,Ad,WN,Cl.v,Au,A6,AQ,AM,LZ,seval];have zz:=Em @c9 @c8 @b9 @b8 @b7;refine By [0,1,2] [0] (hP) ?_;simp only [B0,As,Av,Ad,LZ,seval];have zz:=Cv @d9 @b7 @b8;exact AI hx [0,1,2,3] ⟨rfl,rfl,rfl⟩
 rw [if_neg h2] at he;have hP:Ae M 350 [.ptr 0 [],(c a).v,.bool df] [(0,As D l g s (.ptr 2 []) (.sl 1 [] 0 n 42))] 3 (Q3 (B0 (W (P9 k i df)) (.int .i64 ((k + 1:Nat):Int)) .nili) [(0,As D l g s (.ptr 2 []) (.sl 1 [] 0 n 42))] 3):=by
  unfold P9;cases df with
  | true=>exact Io ok.g D l g s n (c a) k i hk (by have:=Nat.lt_of_le_of_ne hi (fun h=>h2 ⟨rfl,h⟩);omega) hp h1
  | false=>exact IF ok.g D l g s n (c a) k i hk hi hp h1
 generalize hq:P9 k i df=q at *
 refine eX ?_;simp only [Ab8,Y5,Gs.H,As,Av,Ad,WN,Cl.v,Au,A6,AQ,AM,LZ,seval];have zz:=Em @c9 @c8 @b9 @b8 @b7;refine By [0,1,2] [0] (hP) ?_;simp only [B0,As,Av,Ad,LZ,seval];refine Aj (hB) ?_;by_cases h3:bd=BitVec.ofNat 64 (k + 2);case neg =>
  rw [if_pos h3] at he;cases he;simp only [h3,LZ,seval];have zz:=Cv @d9 @b7 @b8;exact AI hx [0,1,2,3] ⟨rfl,rfl,rfl⟩
 rw [if_neg (fun h=>h h3)] at he;have d3:(bd=BitVec.ofNat 64 (k + 2))=True:=eq_true h3;simp only [d3,LZ,seval];by_cases h4:∃ j,j < n∧PA (WN a v pl) q (c j)
 ·rw [if_pos h4] at he;cases he;have hC:=La ok n hn c (clP a v pl q) q h4;simp only [clP,Cl.v,Ad] at hC;have zz:=@b7;refine Dh (hC) ?_;simp only [LZ,seval];have zz:=Cv @d9 @b7 @b8;exact AI hx [0,1,2,3] ⟨rfl,rfl,rfl⟩
 rw [if_neg h4] at he;have hC:=Gx ok n hn c (clP a v pl q) q h4;simp only [clP,Cl.v,Ad] at hC;have zz:=@b7;refine Dh (hC) ?_;simp only [LZ,seval];have zz:=Em @c9 @c8 @b9 @b8 @b7;refine G6 [0,1,2] [0,1] (hF) ?_;simp only [As,Av,Ad,Cl.v,LZ,seval];by_cases h5:KA (c a).us (c a).at' (Hq c (c a)) t
 ·rw [if_pos h5] at he;cases he;have hN:=Uf ok l g (c a).us (c a).at' (Hq c (c a)) t hr h5;simp only [Ad] at hN;have zz:=@b7;refine Ge (hN) ?_;simp only [Bb,seval];have zz:=Cv @d9 @b7 @b8;exact AI hx [0,1,2,3] ⟨rfl,rfl,rfl⟩
 rw [if_neg h5] at he;by_cases h6:l≤Hq c (c a) + t - (c a).at'
 ·rw [if_pos h6] at he;cases he;have hN:=Sm ok l g (c a).us (c a).at' (Hq c (c a)) t hr h5 h6;simp only [Ad] at hN;have zz:=@b7;refine Ge (hN) ?_;simp only [Bb,seval];have zz:=Cv @d9 @b7 @b8;exact AI hx [0,1,2,3] ⟨rfl,rfl,rfl⟩
 rw [if_neg h6] at he;have hN:=KJ ok l g (c a).us (c a).at' (Hq c (c a)) t hr h5 h6;simp only [Ad] at hN;have zz:=@b7;refine Ge (hN) ?_;by_cases h7:64≤n
 ·rw [if_pos h7] at he;cases he;have d7:((64:Int)≤(n:Int))=True:=eq_true Aa;simp only [Bb,d7,seval];have zz:=Cv @d9 @b7 @b8;exact AI hx [0,1,2,3] ⟨rfl,rfl,rfl⟩
 rw [if_neg h7] at he;have d7:((64:Int)≤(n:Int))=False:=eq_false Aa;simp only [Bb,d7,seval];by_cases h8:pl < 0 ∨ 8≤pl
 ·rw [if_pos h8] at he;cases he;have hL:=S2 ok.g.l pl h8 bd;refine obK [2] [] (hL) (by constructor <;> (try simp only [LY,seval]) <;> exact q1) (by simp only [LX]) ?_;simp only [Bb,seval];have zz:=Cv @d9 @b7 @b8;exact AI hx [0,1,2,3] ⟨rfl,rfl,rfl⟩
 rw [if_neg h8] at he;by_cases h9:b pl.toNat < bd
 ·rw [if_pos h9] at he;cases he;obtain ⟨p,rfl⟩:∃ p:Nat,pl=p:=⟨pl.toNat,by omega⟩
  rw [Int.toNat_natCast] at h9;have hL:=S4 ok.g.l b ii o (.sl 1 [] 0 n 2) 2 (.inr ⟨n,rfl,rfl⟩) kk p Aa bd h9;have zz:=AY @j4 @j8;refine G6 [2,3] [2] (hL) ?_;simp only [Bb,A6,AM,seval];have zz:=Cv @d9 @b7 @b8;exact AI hx [0,1,2,3] ⟨rfl,rfl,rfl⟩
 rw [if_neg h9] at he;cases he
def Gs.mv (G:Gs) (x:Cl) (p:Nat) (bd:BitVec 64):Gs:=⟨G.D,G.l,G.g,G.s,G.n + 1,fun j=>if j < G.n then G.c j else x,fun j=>if j=p then G.b p - bd else G.b j,G.i,G.o,G.k + bd,fun j=>if j < G.n then G.v j else bd,fun j=>if j < G.n then G.gv j else false⟩
def mvC (G:Gs) (a:Nat) (df:Bool) (v:Dg) (pl:Int) (t:BitVec 64) (k i:Nat):Cl:=clN a v pl (P9 k i df) G.n (mnW (Hq G.c (G.c a) + t - (G.c a).at') (G.l - G.g)) t
def Gs.H2 (G:Gs):Hp:=[(0,As G.D G.l G.g G.s (.ptr 2 []) (.sl 4 [] 0 G.n 42)),(2,A6 G.b G.i G.o (.sl 5 [] 0 G.n 2) G.k),(4,Au G.n G.c),(5,AQ G.n G.v G.gv)]
theorem SI (ok:OkMv M) (G:Gs) (a:Nat) (df:Bool) (v:Dg) (pl:Int) (bd t:BitVec 64) (k i:Nat) (hn:G.n < 1000) (hr:RY G.l G.g) (ha:a < G.n)
 (hk:k≤20) (hi:i < 2 ^ k) (hp:(G.c a).pos=pw k i) (hb:(G.c a).par < 0 ∨ ∃ p:Nat,(G.c a).par=p∧p < G.n) (he:mvE G a df v pl bd t k i=none) :
 Ae M 247 [.ptr 0 [],(WN a v pl).v,(G.c a).v,.bool df,W bd,W t] G.H 4 (Q3 (Ai (.int .i64 (G.n:Int)) .nili) ((G.mv (mvC G a df v pl t k i) pl.toNat bd).H2) 6):=by
 obtain ⟨D,l,g,s,n,c,b,ii,o,kk,vv,gv⟩:=G;unfold mvC;dsimp only [Gs.mv] at *
 unfold mvE at he;dsimp only at he;have hF:=Ey ok.g D l g s n c (c a) hb;have hB:=Ur ok.g k hk;simp only [Au] at hF;by_cases h1:D≤k
 ·rw [if_pos h1] at he;cases he
 rw [if_neg h1] at he;by_cases h2:df=true∧i + 1=2 ^ k
 ·rw [if_pos h2] at he;cases he
 rw [if_neg h2] at he;have hP:Ae M 350 [.ptr 0 [],(c a).v,.bool df] [(0,As D l g s (.ptr 2 []) (.sl 1 [] 0 n 42))] 3 (Q3 (B0 (W (P9 k i df)) (.int .i64 ((k + 1:Nat):Int)) .nili) [(0,As D l g s (.ptr 2 []) (.sl 1 [] 0 n 42))] 3):=by
  unfold P9;cases df with
  | true=>exact Io ok.g D l g s n (c a) k i hk (by have:=Nat.lt_of_le_of_ne hi (fun h=>h2 ⟨rfl,h⟩);omega) hp h1
  | false=>exact IF ok.g D l g s n (c a) k i hk hi hp h1
 generalize hq:P9 k i df=q at *
 by_cases h3:bd=BitVec.ofNat 64 (k + 2);case neg=>rw [if_pos h3] at he;cases he
 rw [if_neg (fun h=>h h3)] at he;have d3:(bd=BitVec.ofNat 64 (k + 2))=True:=eq_true h3;by_cases h4:∃ j,j < n∧PA (WN a v pl) q (c j)
 ·rw [if_pos h4] at he;cases he
 rw [if_neg h4] at he;have hC:=Gx ok n hn c (clP a v pl q) q h4;simp only [clP,Cl.v,Ad] at hC;by_cases h5:KA (c a).us (c a).at' (Hq c (c a)) t
 ·rw [if_pos h5] at he;cases he
 rw [if_neg h5] at he;by_cases h6:l≤Hq c (c a) + t - (c a).at'
 ·rw [if_pos h6] at he;cases he
 rw [if_neg h6] at he;have hN:=KJ ok l g (c a).us (c a).at' (Hq c (c a)) t hr h5 h6;simp only [Ad] at hN;by_cases h7:64≤n
 ·rw [if_pos h7] at he;cases he
 rw [if_neg h7] at he;have d7:((64:Int)≤(n:Int))=False:=eq_false Aa;by_cases h8:pl < 0 ∨ 8≤pl
 ·rw [if_pos h8] at he;cases he
 rw [if_neg h8] at he;by_cases h9:b pl.toNat < bd
 ·rw [if_pos h9] at he;cases he
 obtain ⟨p,rfl⟩:∃ p:Nat,pl=p:=⟨pl.toNat,by omega⟩
 rw [Int.toNat_natCast] at *
 have hL:=Tl ok.g.l b ii o kk p Aa bd h9 n hn (fun j=>AM (vv j) (gv j)) (fun j=>⟨_,_,rfl⟩);generalize hu:mnW (Hq c (c a) + t - (c a).at') (l - g)=u at *
 have z1:IntKind.i64.wrap (((n + 1:Nat):Int) - 1)=(n:Int):=AW;have z2:IntKind.i64.wrap ((n:Int) + 1)=((n + 1:Nat):Int):=AW;refine Ab ok.k247 rfl fun x hx=>?_;refine eX ?_;simp only [Ab8,Y5,Gs.H,As,Av,Ad,WN,Cl.v,Au,A6,AQ,AM,LZ,seval];have zz:=Em @c9 @c8 @b9 @b8 @b7;refine By [0,1,2] [0] (hP) ?_;simp only [B0,As,Av,Ad,LZ,seval];refine Aj (hB) ?_;simp only [d3,LZ,seval];have zz:=@b7;refine Dh (hC) ?_;simp only [LZ,seval];have zz:=Em @c9 @c8 @b9 @b8 @b7;refine G6 [0,1,2] [0,1] (hF) ?_;simp only [As,Av,Ad,Cl.v,LZ,seval];have zz:=@b7;refine Ge (hN) ?_;simp only [Bb,d7,seval];have zz:=AY @j4 @j8;refine G6 [2,3] [2,3] (hL) ?_;simp only [Bb,A6,AM,z1,z2,Nat.testBit,List.map_nil,List.map_cons,B3,seval];repeat refine sd ?_
 refine Ap.mk hx [0,1,2,3,1988,1572] [] (Ai (.int .i64 (n:Int)) .nili) (Gs.H2 ⟨D,l,g,s,n + 1,fun j=>if j < n then c j else clN a v p q n u t,fun j=>if j=p then b p - bd else b j,ii,o,kk + bd,fun j=>if j < n then vv j else bd,fun j=>if j < n then gv j else false⟩) 6 Al (by (simp only [Di,seval])) (by simp only [LV,Ai,LY,seval]) ?_ ⟨rfl,rfl,rfl⟩;simp only [Gs.H2,As,Av,Ad,Au,Cl.v,clN,A6,AQ,AM,dg,LY,seval]
 (repeat' apply And.intro)
 all_goals
  intro j hj;by_cases h:j < n
  ·simp only [h,if_true,V.ren,W,LY,seval]
  ·have h0:j - n=0:=Aa;simp only [h,h0,B4,V.ren,W,LY,seval]
def l7:=@AQ.eq_1
variable {M:Seat}
def Gg (p:BitVec 64):Nat:=D1 p - 1
def N4 (p:BitVec 64):Nat:=p.toNat - 2 ^ Gg p
def trW (D:Nat) (p:BitVec 64):BitVec 64:=BitVec.ofNat 64 (E3 D (Gg p) (N4 p))
theorem BR {k i:Nat} (hk:k≤24) (hi:i < 2 ^ k):Gg (pw k i)=k:=by rw [Gg,QS hk hi];omega
theorem CI {k i:Nat} (hk:k≤24) (hi:i < 2 ^ k):N4 (pw k i)=i:=by rw [N4,BR hk hi,M3 hk hi];omega
theorem TW {D k i:Nat} (hk:k≤24) (hi:i < 2 ^ k):trW D (pw k i)=BitVec.ofNat 64 (E3 D k i):=by rw [trW,BR hk hi,CI hk hi]
structure OkGs (M:Seat):Prop where
 v:OkMv M
 c:OkCl M
 le:OkLe M
 k357:Ar M 357 Al6=true
 k359:Ar M 359 M2=true
 k454:Ar M 454 Ara=true
 k356:Ar M 356 YC=true
theorem Mq (ok:OkGs M) (d:Int) (l g:BitVec 64) (s:Dg) (n:Nat) (c:Nat→Cl) (q:Cl) (t:BitVec 64) (hc:RY l g) (hq:q.par < 0 ∨ ∃ p:Nat,q.par=p∧p < n) (h:KA q.us q.at' (Hq c q) t) :
 Ae M 357 [.ptr 0 [],q.v,W t] [(0,As d l g s (.ptr 2 []) (.sl 1 [] 0 n 42)),(1,Au n c)] 3 (Q3 (Ai (.bool false) (er 2)) [(0,As d l g s (.ptr 2 []) (.sl 1 [] 0 n 42)),(1,Au n c)] 3):=by
 have hF:=Ey ok.v.g d l g s n c q hq;have hO:=Tz ok.c l g q.us q.at' (Hq c q) t hc h;generalize Hq c q=u at *
 refine Ab ok.k357 rfl fun x hx=>?_;refine eX ?_;simp only [Al6,Ai8,As,Av,Ad,Cl.v,Au,LZ,seval];have zz:=Gb @c9 @c8 @b9 @b8 @f7 @b7;refine G6 [0,1,2] [0,1] (hF) ?_;simp only [As,Av,Ad,Cl.v,Au,LZ,seval];have zz:=@b9;refine Ge (hO) ?_;simp only [Bb,seval];have zz:=Cv @d9 @b7 @b8;exact AI hx [0,1,2] ⟨rfl,rfl,rfl⟩
theorem M4 (ok:OkGs M) (d:Int) (l g:BitVec 64) (s:Dg) (n:Nat) (c:Nat→Cl) (q:Cl) (t:BitVec 64) (hc:RY l g) (hq:q.par < 0 ∨ ∃ p:Nat,q.par=p∧p < n) (h:¬ KA q.us q.at' (Hq c q) t) :
 Ae M 357 [.ptr 0 [],q.v,W t] [(0,As d l g s (.ptr 2 []) (.sl 1 [] 0 n 42)),(1,Au n c)] 3 (Q3 (Ai (.bool (decide (l≤Hq c q + t - q.at'))) .nili) [(0,As d l g s (.ptr 2 []) (.sl 1 [] 0 n 42)),(1,Au n c)] 3):=by
 have hF:=Ey ok.v.g d l g s n c q hq;have hO:=Sy ok.c l g q.us q.at' (Hq c q) t hc h;generalize Hq c q=u at *
 refine Ab ok.k357 rfl fun x hx=>?_;refine eX ?_;simp only [Al6,Ai8,As,Av,Ad,Cl.v,Au,LZ,seval];have zz:=Gb @c9 @c8 @b9 @b8 @f7 @b7;refine G6 [0,1,2] [0,1] (hF) ?_;simp only [As,Av,Ad,Cl.v,Au,LZ,seval];have zz:=@b9;refine Ge (hO) ?_;simp only [Bb,seval];have zz:=Cv @d9 @b7 @b8;exact AI hx [0,1,2] ⟨rfl,rfl,rfl⟩
def Xw (D:Nat) (c:Nat→Cl) (t:BitVec 64):Nat→Int→Option Nat
 | 0,_=>none
 | f + 1,a=>if a < 0 then none else if trW D (c a.toNat).pos=t then some a.toNat else Xw D c t f (c a.toNat).par
def Pls (D n:Nat) (c:Nat→Cl):Prop:=∀ j,j < n→∃ k i,k≤D∧i < 2 ^ k∧(c j).pos=pw k i
def Prs (n:Nat) (c:Nat→Cl):Prop:=∀ j,j < n→(c j).par = -1 ∨ ∃ p:Nat,(c j).par=p∧p < j
def abR (c:Nat→Cl) (o:Option Nat):V:=match o with
 | some j=>Ai (c j).v (.bool true)
 | none=>Ai Cl.zero.v (.bool false)
theorem JA (ok:OkGs M) (D:Nat) (hD:D≤20) (l g:BitVec 64) (s:Dg) (n:Nat) (c:Nat→Cl) (hp:Pls D n c) (hr:Prs n c) (a:Nat) (ha:a < n) (t:BitVec 64) :
 Ae M 454 [.ptr 0 [],.int .i64 a,W t] [(0,As D l g s (.ptr 2 []) (.sl 1 [] 0 n 42)),(1,Au n c)] 3 (Q3 (abR c (Xw D c t (a + 1) a)) [(0,As D l g s (.ptr 2 []) (.sl 1 [] 0 n 42)),(1,Au n c)] 3):=by
 generalize hR:Xw D c t (a + 1) a=R;refine Ab ok.k454 rfl fun x hx=>?_;refine eX ?_;simp only [Ara,Atr,As,Av,Ad,Au,LZ,seval];refine Am (σ:=Int) (fun b=>(b = -1 ∨ ∃ p:Nat,b=p∧p < n)∧∃ f,(b + 1).toNat≤f∧Xw D c t f b=R) (fun b=>fr 54 [(0,.ptr 0 []),(2,W t),(6,.ptr 3 []),(7,.bool false),(8,.int .i64 b)]) (fun _=>[(0,As D l g s (.ptr 2 []) (.sl 1 [] 0 n 42)),(1,Au n c),(3,Cl.zero.v)]) (fun _=>4) (fun b=>(b + 1).toNat) a ⟨.inr ⟨a,rfl,ha⟩,a + 1,by omega,hR⟩ ?_ ?_
 ·refine Ak.fr [0,1,2,3] [] hx AG Al ?_ ?_;all_goals simp only [As,Av,Ad,Au,Cl.v,Cl.zero,dg,implies_true,LY,seval]
 ·intro b ⟨hb,f,hf,hfb⟩;refine eX ?_;rcases hb with rfl | ⟨p,rfl,hpn⟩
  ·have d0:(0≤(-1:Int))=False:=eq_false Aa;have hR:R=none:=by
    cases f with
    | zero=>exact hfb.symm
    | succ f=>rw [Xw,if_pos Aa] at hfb;exact hfb.symm
   subst hR;simp only [d0,Cl.zero,Cl.v,Ad,LZ,seval];repeat refine sd ?_
   have zz:=T5 @abR.eq_1 @abR.eq_2 @d9 @k7 @b8 @b9 @f7 @c9 @c8 @b7;exact AI hx [0,1,2] ⟨rfl,rfl,rfl⟩
  ·obtain ⟨k,i,hk,hi,hpos⟩:=hp p hpn;have hT:=Cy ok.v.g.p ok.k359 (show D≤24 by omega) hk hi;have d0:(0≤(p:Int))=True:=eq_true Aa;have d1:((p:Int) < (n:Int))=True:=eq_true Aa;have hpar:=hr p hpn;obtain ⟨f,rfl⟩:∃ f',f=f' + 1:=⟨f - 1,by omega⟩
   rw [Xw,if_neg Aa,Int.toNat_natCast,hpos,TW Aa hi] at hfb;generalize BitVec.ofNat 64 (E3 D k i)=w at *
   simp only [d0,d1,As,Av,Ad,Au,Cl.v,hpos,LZ,seval];repeat refine sd ?_
   refine AO (hT) ?_;by_cases hw:w=t
   ·rw [if_pos hw] at hfb;subst hfb;simp only [Bb,hw,d0,d1,As,Av,Ad,Au,Cl.v,hpos,seval];repeat refine sd ?_
    have zz:=T5 @abR.eq_1 @abR.eq_2 @d9 @b8 @b9 @f7 @c9 @c8 @b7 hpos;exact AI hx [0,1,2] ⟨rfl,rfl,rfl⟩
   ·rw [if_neg hw] at hfb;have hw:=eq_false hw;simp only [Bb,hw,d0,d1,As,Av,Ad,Au,Cl.v,hpos,seval];repeat refine sd ?_
    have e1:((p:Int) + 1).toNat=p + 1:=rfl;rw [e1] at hf;have e2:((c p).par + 1).toNat≤p:=by
     rcases hpar with h | ⟨q,h,h1⟩
     ·rw [h];exact Nat.zero_le _
     ·rw [h];exact h1
    refine ⟨(c p).par,hpar.imp_right (fun ⟨q,h,h1⟩=>⟨q,h,by omega⟩),⟨f,by omega,hfb⟩,by rw [e1];omega,?_⟩;refine Ak.fr [0,1,2,3] [] hx AG Al ?_ ?_;all_goals simp only [As,Av,Ad,Au,Cl.v,Cl.zero,dg,hpos,implies_true,LY,seval]
end Mv
