/- A part. -/
import Derived.Test.YtlfkjfonpacelaaGreatDoorHM
import Derived.Test.YtlfkjfonpacelaaGreatDoorHO
set_option linter.all false
set_option maxRecDepth 20000
set_option maxHeartbeats 16000000
namespace Mv
open Go
variable {M:Seat}
def Ty (l g:BitVec 64):Prop:=¬ l < 1#64∧¬ 1099511627776#64 < l∧¬ l < g
def Ng (u a b n:BitVec 64):Prop:=n < a ∨ 1099511627776#64 < UX (UX (UX u a) b) n
def mnW (a b:BitVec 64):BitVec 64:=if a < b then a else b
theorem Alo (a b:BitVec 64) (H:Hp):vmm false (W a) (W b) H=⟨True,W (mnW a b),H⟩:=by
 have:vmm false (W a) (W b) H=⟨IntKind.u64=IntKind.u64,.int .u64 (QB false (a.toNat:Int) (b.toNat:Int)),H⟩:=rfl
 rw [this]
 have h:QB false (a.toNat:Int) (b.toNat:Int)=((mnW a b).toNat:Int):=by
  unfold QB mnW
  simp only [RW,BitVec.lt_def]
  repeat' split
  all_goals omega
 rw [h];simp [W]
structure OkCl (M:Seat):Prop where
 v:OkMv M
 k455:Ar M 455 Agx=true
theorem F0 (ok:OkMv M) (l g:BitVec 64) (h:Ty l g):Ae M 249 [Ah l g] [] 0 (Q3 .nili [] 0):=by
 obtain ⟨h1,h2,h3⟩:=h
 refine Ab ok.g.k249 rfl fun x hx=>?_
 refine es 2000 ?_;(simp only [Ai7,Ajm,Ah,h1,h2,h3,LZ,seval])
 exact Aq.mkZ hx [] ⟨rfl,rfl,rfl⟩
theorem OP (ok:OkMv M) (u a b n:BitVec 64) (h:Ng u a b n):Ae M 487 [Ah u a,W b,W n] [] 0 (Q3 (Ag (W 0#64) (er 2)) [] 0):=by
 refine Ab ok.k487 rfl fun x hx=>?_
 by_cases h1:n < a
 ·refine es 2000 ?_;(simp only [Aaj,Zk,Ah,M3,RA,h1,LZ,seval])
  have zz:=@Ag.eq_1;exact Bu hx [] ⟨rfl,rfl,rfl⟩
 ·have h2:1099511627776#64 < UX (UX (UX u a) b) n:=h.resolve_left h1
  refine es 2000 ?_;(simp only [Aaj,Zk,Ah,M3,RA,h1,h2,LZ,seval])
  have zz:=@Ag.eq_1;exact Bu hx [] ⟨rfl,rfl,rfl⟩
theorem Po (ok:OkMv M) (u a b n:BitVec 64) (h:¬ Ng u a b n):Ae M 487 [Ah u a,W b,W n] [] 0 (Q3 (Ag (W (b + n - a)) .nili) [] 0):=by
 obtain ⟨h1,h2⟩:=not_or.1 h
 refine Ab ok.k487 rfl fun x hx=>?_
 refine es 2000 ?_;(simp only [Aaj,Zk,Ah,M3,RA,h1,h2,LZ,seval])
 have zz:=@Ag.eq_1;exact Bu hx [] ⟨rfl,rfl,rfl⟩
theorem Pn (ok:OkMv M) (l g u a b n:BitVec 64) (hc:Ty l g) (h:Ng u a b n):Ae M 453 [Ah l g,Ah u a,W b,W n] [] 0 (Q3 (Ag (W 0#64) (er 2)) [] 0):=by
 refine Ab ok.k453 rfl fun x hx=>?_
 refine es 2000 ?_;(simp only [Ah4,Aif,Ah,LZ,seval])
 have zz:=@Ah.eq_1;refine DJ (F0 ok l g hc) ?_
 (simp only [LZ,seval])
 have zz:=@Ah.eq_1;refine DJ (OP ok u a b n h) ?_
 (simp only [BU,seval])
 have zz:=@Ag.eq_1;exact Bu hx [] ⟨rfl,rfl,rfl⟩
theorem Iv (ok:OkMv M) (l g u a b n:BitVec 64) (hc:Ty l g) (h:¬ Ng u a b n):Ae M 453 [Ah l g,Ah u a,W b,W n] [] 0 (Q3 (Ag (W (b + n - a)) .nili) [] 0):=by
 refine Ab ok.k453 rfl fun x hx=>?_
 refine es 2000 ?_;(simp only [Ah4,Aif,Ah,LZ,seval])
 have zz:=@Ah.eq_1;refine DJ (F0 ok l g hc) ?_
 (simp only [LZ,seval])
 have zz:=@Ah.eq_1;refine DJ (Po ok u a b n h) ?_
 (simp only [BU,seval])
 have zz:=@Ag.eq_1;exact Bu hx [] ⟨rfl,rfl,rfl⟩
theorem Qm (ok:OkMv M) (l g u a b n:BitVec 64) (hc:Ty l g) (h:¬ Ng u a b n) (hl:¬ l≤b + n - a):Ae M 353 [Ah l g,Ah u a,W b,W n] [] 0 (Q3 (Ag (Ah (mnW (b + n - a) (l - g)) n) .nili) [] 0):=by
 refine Ab ok.k353 rfl fun x hx=>?_
 refine es 2000 ?_;(simp only [Al2,Al1,Ah,LZ,seval])
 have zz:=@Ah.eq_1;refine DJ (Iv ok l g u a b n hc h) ?_
 (simp only [BU,hl,Alo,seval])
 have zz:=Bo @Ag.eq_1 @Ah.eq_1;exact Bu hx [] ⟨rfl,rfl,rfl⟩
theorem R8 (ok:OkCl M) (l g u a b n:BitVec 64) (hc:Ty l g) (h:Ng u a b n):Ae M 455 [Ah l g,Ah u a,W b,W n] [] 0 (Q3 (Ag (.bool false) (er 2)) [] 0):=by
 refine Ab ok.k455 rfl fun x hx=>?_
 refine es 2000 ?_;(simp only [Agx,Aio,Ah,LZ,seval])
 have zz:=@Ah.eq_1;refine DJ (Pn ok.v l g u a b n hc h) ?_
 (simp only [BU,seval])
 have zz:=@Ag.eq_1;exact Bu hx [] ⟨rfl,rfl,rfl⟩
theorem Qw (ok:OkCl M) (l g u a b n:BitVec 64) (hc:Ty l g) (h:¬ Ng u a b n):Ae M 455 [Ah l g,Ah u a,W b,W n] [] 0 (Q3 (Ag (.bool (decide (l≤b + n - a))) .nili) [] 0):=by
 refine Ab ok.k455 rfl fun x hx=>?_
 refine es 2000 ?_;(simp only [Agx,Aio,Ah,LZ,seval])
 have zz:=@Ah.eq_1;refine DJ (Iv ok.v l g u a b n hc h) ?_
 (simp only [BU,seval])
 have zz:=@Ag.eq_1;exact Bu hx [] ⟨rfl,rfl,rfl⟩
def AJ (n:Nat) (c:Nat→Cl):V:=.ar 42 n fun j=>(c j).v
theorem Qb {M:Seat} (ok:OkGm M) (d:Int) (l g:BitVec 64) (s:Dg) (n:Nat) (c:Nat→Cl) (a:Nat) (ha:a < n) (hr:(c a).rs=false) :
 Ae M 246 [.ptr 0 [],.int .i64 a] [(0,AB d l g s (.ptr 2 []) (.sl 1 [] 0 n 42)),(1,AJ n c)] 3 (Q3 (Ag (c a).v .nili) [(0,AB d l g s (.ptr 2 []) (.sl 1 [] 0 n 42)),(1,AJ n c)] 3):=by
 have d0:((a:Int) < 0)=False:=eq_false Aa
 have d1:((n:Int)≤(a:Int))=False:=eq_false Aa
 have d2:((a:Int) < (n:Int))=True:=eq_true Aa
 have d3:(0≤(a:Int))=True:=eq_true Aa
 refine Ab ok.n.k246 rfl fun x hx=>?_
 refine es 2000 ?_;(simp only [Ai4,Alp,AB,AH,Ah,AJ,Cl.v,hr,d0,d1,d2,d3,LZ,seval])
 repeat refine sd ?_
 have zz:=Bo @Ag.eq_1 @dg.eq_1;exact Bu hx [0,1,2] ⟨rfl,rfl,rfl⟩
def HL (c:Nat→Cl) (q:Cl):BitVec 64:=if q.par < 0 then 0#64 else (c q.par.toNat).us
theorem EO {M:Seat} (ok:OkGm M) (d:Int) (l g:BitVec 64) (s:Dg) (n:Nat) (c:Nat→Cl) (q:Cl) (hq:q.par < 0 ∨ ∃ p:Nat,q.par=p∧p < n) :
 Ae M 354 [.ptr 0 [],q.v] [(0,AB d l g s (.ptr 2 []) (.sl 1 [] 0 n 42)),(1,AJ n c)] 3 (Q3 (W (HL c q)) [(0,AB d l g s (.ptr 2 []) (.sl 1 [] 0 n 42)),(1,AJ n c)] 3):=by
 unfold HL
 refine Ab ok.k354 rfl fun x hx=>?_
 rcases hq with h0 | ⟨p,hp,hn⟩
 ·rw [if_pos h0]
  refine es 2000 ?_;(simp only [Ahl,Ahw,AB,AH,Ah,AJ,Cl.v,h0,LZ,seval])
  have zz:=@dg.eq_1;exact Bu hx [0,1,2] ⟨rfl,rfl,rfl⟩
 ·have d0:((p:Int) < 0)=False:=eq_false Aa
  have d2:((p:Int) < (n:Int))=True:=eq_true Aa
  have d3:(0≤(p:Int))=True:=eq_true Aa
  rw [hp,if_neg Aa,Int.toNat_natCast]
  refine es 2000 ?_;(simp only [Ahl,Ahw,AB,AH,Ah,AJ,Cl.v,hp,d0,d2,d3,LZ,seval])
  repeat refine sd ?_
  have zz:=@dg.eq_1;exact Bu hx [0,1,2] ⟨rfl,rfl,rfl⟩
variable {M:Seat}
theorem Nb (ok:OkGm M) (D:Nat) (l g:BitVec 64) (s:Dg) (n:Nat) (q:Cl) (k i:Nat) (hk:k≤20) (hi:i < 2 ^ k) (hq:q.pos=pw k i) (hD:¬ D≤k) :
 Ae M 350 [.ptr 0 [],q.v,.bool false] [(0,AB D l g s (.ptr 2 []) (.sl 1 [] 0 n 42))] 3 (Q3 (Cz (W (pw (k + 1) (2 * i))) (.int .i64 ((k + 1:Nat):Int)) .nili) [(0,AB D l g s (.ptr 2 []) (.sl 1 [] 0 n 42))] 3):=by
 refine Ab ok.k350 rfl fun x hx=>?_
 have d0:((D:Int)≤(k:Int))=False:=eq_false Aa
 have z1:IntKind.i64.wrap ((k:Int) + 1)=((k + 1:Nat):Int):=Br
 refine es 2000 ?_;(simp only [Aer,Aeq,AB,AH,Ah,Cl.v,hq,LZ,seval])
 refine Al (BI ok.p (show k≤24 by omega) hi) ?_
 (simp only [Cz,d0,LZ,seval])
 refine Al (Ep ok.p (show k < 24 by omega) hi) ?_
 (simp only [BU,z1,seval])
 have zz:=Bo @Cz.eq_1 @dg.eq_1;exact Bu hx [0,1,2] ⟨rfl,rfl,rfl⟩
theorem NH (ok:OkGm M) (D:Nat) (l g:BitVec 64) (s:Dg) (n:Nat) (q:Cl) (k i:Nat) (hk:k≤20) (hi:i + 1 < 2 ^ k) (hq:q.pos=pw k i) (hD:¬ D≤k) :
 Ae M 350 [.ptr 0 [],q.v,.bool true] [(0,AB D l g s (.ptr 2 []) (.sl 1 [] 0 n 42))] 3 (Q3 (Cz (W (pw (k + 1) (2 * i + 2))) (.int .i64 ((k + 1:Nat):Int)) .nili) [(0,AB D l g s (.ptr 2 []) (.sl 1 [] 0 n 42))] 3):=by
 refine Ab ok.k350 rfl fun x hx=>?_
 have d0:((D:Int)≤(k:Int))=False:=eq_false Aa
 have z1:IntKind.i64.wrap ((k:Int) + 1)=((k + 1:Nat):Int):=Br
 have hi':i < 2 ^ k:=Aa
 refine es 2000 ?_;(simp only [Aer,Aeq,AB,AH,Ah,Cl.v,hq,LZ,seval])
 refine Al (BI ok.p (show k≤24 by omega) hi') ?_
 (simp only [Cz,d0,LZ,seval])
 refine Al (Ep ok.p (show k < 24 by omega) hi') ?_
 (simp only [BU,seval])
 refine Al (Pc ok.p (show k < 24 by omega) hi) ?_
 (simp only [BU,z1,seval])
 have zz:=Bo @Cz.eq_1 @dg.eq_1;exact Bu hx [0,1,2] ⟨rfl,rfl,rfl⟩
def XS (X:Cl) (q:BitVec 64) (y:Cl):Prop:=y.par=X.par∧y.pos=q∧y.val=X.val
instance (X:Cl) (q:BitVec 64) (y:Cl):Decidable (XS X q y):=by unfold XS;infer_instance
theorem Rq (ok:OkMv M) (y X:Cl) (q:BitVec 64):Ae M 352 [y.v,.imm X.v,.imm (W q)] [] 0 (Q3 (.bool (decide (XS X q y))) [] 0):=by
 refine Ab ok.k352 rfl fun x hx=>?_
 by_cases h1:y.par=X.par
 ·by_cases h2:y.pos=q
  ·by_cases h3:y.val=X.val
   ·have e:decide (XS X q y)=true:=decide_eq_true ⟨h1,h2,h3⟩
    rw [e]
    refine es 2000 ?_;(simp only [V2,Vu,Cl.v,Ah,h1,h2,h3,LZ,seval])
    exact Aq.mkZ hx [] ⟨rfl,rfl,rfl⟩
   ·have e:decide (XS X q y)=false:=decide_eq_false fun h=>h3 h.2.2
    rw [e]
    refine es 2000 ?_;(simp only [V2,Vu,Cl.v,Ah,h1,h2,h3,LZ,seval])
    exact Aq.mkZ hx [] ⟨rfl,rfl,rfl⟩
  ·have e:decide (XS X q y)=false:=decide_eq_false fun h=>h2 h.2.1
   rw [e]
   refine es 2000 ?_;(simp only [V2,Vu,Cl.v,Ah,h1,h2,LZ,seval])
   exact Aq.mkZ hx [] ⟨rfl,rfl,rfl⟩
 ·have e:decide (XS X q y)=false:=decide_eq_false fun h=>h1 h.1
  rw [e]
  refine es 2000 ?_;(simp only [V2,Vu,Cl.v,Ah,h1,LZ,seval])
  exact Aq.mkZ hx [] ⟨rfl,rfl,rfl⟩
theorem Pj (ok:OkMv M) (n:Nat) (hn:n < 1000) (c:Nat→Cl) (X:Cl) (q:BitVec 64) (hno:∀ j,j < n→¬ XS X q (c j)) :
 Ae M 452 [.lst 42 n (fun j=>(c j).v),.fn 352 (.st 2 (.fcons 0 (.imm X.v) (.fcons 1 (.imm (W q)) .fnil)))] [] 0 (Q3 (.int .i64 (-1)) [] 0):=by
 refine Ab ok.k452 rfl fun x hx=>?_
 refine es 2000 ?_;(simp only [Am6,Any,LZ,seval])
 refine An (σ:=Nat) (fun i=>i≤n) (fun i=>fr 19 [(8,.int .i64 i),(7,.int .i64 n),(1,.fn 352 (.st 2 (.fcons 0 (.imm X.v) (.fcons 1 (.imm (W q)) .fnil)))),(0,.lst 42 n fun j=>(c j).v)]) (fun _=>[]) (fun _=>0) (fun i=>n - i) 0 Aa ?_ ?_
 ·refine Ao.fr [] [] hx AX Am ?_ ?_
  all_goals simp only [Int.natCast_zero,Cl.v,Ah,dg,implies_true,LY,seval]
 ·intro i hi
  refine es 2000 ?_
  by_cases h0:i=n
  ·subst h0
   have d0:((i:Int) < (i:Int))=False:=eq_false Aa
   (simp only [d0,LZ,seval])
   exact Aq.mkZ hx [] ⟨rfl,rfl,rfl⟩
  ·have d0:((i:Int) < (n:Int))=True:=eq_true Aa
   have d2:(0≤(i:Int))=True:=eq_true Aa
   have hS:=Rq ok (c i) X q
   rw [decide_eq_false (hno i Aa)] at hS
   have z0:IntKind.i64.wrap ((i:Int) + 1)=((i + 1:Nat):Int):=Br
   (simp only [d0,d2,LZ,seval])
   repeat refine sd ?_
   refine Al7 ok.fn352 rfl rfl ?_
   have zz:=CX @Cl.v.eq_1 @Ah.eq_1 @dg.eq_1;refine DJ (hS) ?_
   (simp only [z0,LZ,seval])
   refine ⟨i + 1,by omega,by omega,?_⟩
   refine Ao.fr [] [] hx AX Am ?_ ?_
   all_goals simp only [Cl.v,Ah,dg,implies_true,LY,seval]
theorem K9 (ok:OkMv M) (n:Nat) (hn:n < 1000) (c:Nat→Cl) (X:Cl) (q:BitVec 64) (h:¬ ∃ j,j < n∧XS X q (c j)) :
 Ae M 351 [.lst 42 n (fun j=>(c j).v),.fn 352 (.st 2 (.fcons 0 (.imm X.v) (.fcons 1 (.imm (W q)) .fnil)))] [] 0 (Q3 (.bool false) [] 0):=by
 have h:=Pj ok n hn c X q (fun j hj hs=>h ⟨j,hj,hs⟩)
 refine Ab ok.k351 rfl fun x hx=>?_
 refine es 2000 ?_;(simp only [Anp,Alg,LZ,seval])
 have zz:=CX @Cl.v.eq_1 @Ah.eq_1 @dg.eq_1;refine DJ (h) ?_
 (simp only [LZ,seval])
 exact Aq.mkZ hx [] ⟨rfl,rfl,rfl⟩
structure Gs where
 D:Nat
 l:BitVec 64
 g:BitVec 64
 s:Dg
 n:Nat
 c:Nat→Cl
 b:Nat→BitVec 64
 i:BitVec 64
 o:BitVec 64
 k:BitVec 64
 v:Nat→BitVec 64
 gv:Nat→Bool
def Be (n:Nat) (v:Nat→BitVec 64) (g:Nat→Bool):V:=.ar 2 n fun j=>AU (v j) (g j)
def Gs.H (G:Gs):Hp:=[(0,AB G.D G.l G.g G.s (.ptr 2 []) (.sl 1 [] 0 G.n 42)),(1,AJ G.n G.c),(2,AA G.b G.i G.o (.sl 3 [] 0 G.n 2) G.k),(3,Be G.n G.v G.gv)]
def clX (a:Nat) (v:Dg) (pl:Int):Cl:=⟨a,0#64,v,pl,0,0#64,0#64,false,false,false,pl⟩
def clP (a:Nat) (v:Dg) (pl:Int) (q:BitVec 64):Cl:=⟨a,q,v,pl,0,0#64,0#64,false,false,false,pl⟩
def clN (a:Nat) (v:Dg) (pl:Int) (q:BitVec 64) (n:Nat) (u t:BitVec 64):Cl:=⟨a,q,v,pl,n,u,t,false,false,false,pl⟩
def anP (k i:Nat) (df:Bool):BitVec 64:=if df=true then pw (k + 1) (2 * i + 2) else pw (k + 1) (2 * i)
instance (u a b n:BitVec 64):Decidable (Ng u a b n):=by unfold Ng;infer_instance
def mvE (G:Gs) (a:Nat) (df:Bool) (v:Dg) (pl:Int) (bd t:BitVec 64) (k i:Nat):Option Int :=
 if G.D≤k then some 45
 else if df=true∧i + 1=2 ^ k then some 45
 else if ¬ bd=BitVec.ofNat 64 (k + 2) then some 40
 else if ∃ j,j < G.n∧XS (clX a v pl) (anP k i df) (G.c j) then some 41
 else if Ng (G.c a).us (G.c a).at' (HL G.c (G.c a)) t then some 2
 else if G.l≤HL G.c (G.c a) + t - (G.c a).at' then some 42
 else if 64≤G.n then some 5
 else if pl < 0 ∨ 8≤pl then some 2
 else if G.b pl.toNat < bd then some 21
 else none
theorem Abc {M:Seat} (ok:OkGm M) (k:Nat) (hk:k≤20):Ae M 120 [.int .i64 ((k + 1:Nat):Int)] [] 0 (Q3 (W (BitVec.ofNat 64 (k + 2))) [] 0):=by
 have hB:=L9 ok.n ((k + 1:Nat):Int)
 rw [if_neg Aa] at hB
 have:BitVec.ofInt 64 ((k + 1:Nat):Int) + 1#64=BitVec.ofNat 64 (k + 2):=by
  rw [BitVec.ofInt_natCast,show k + 2=k + 1 + 1 by omega,BitVec.ofNat_add (k + 1)]
 rw [this] at hB
 exact hB
def Gs.mv (G:Gs) (x:Cl) (p:Nat) (bd:BitVec 64):Gs:=⟨G.D,G.l,G.g,G.s,G.n + 1,fun j=>if j < G.n then G.c j else x,fun j=>if j=p then G.b p - bd else G.b j,G.i,G.o,G.k + bd,fun j=>if j < G.n then G.v j else bd,fun j=>if j < G.n then G.gv j else false⟩
def mvC (G:Gs) (a:Nat) (df:Bool) (v:Dg) (pl:Int) (t:BitVec 64) (k i:Nat):Cl:=clN a v pl (anP k i df) G.n (mnW (HL G.c (G.c a) + t - (G.c a).at') (G.l - G.g)) t
def Gs.H2 (G:Gs):Hp:=[(0,AB G.D G.l G.g G.s (.ptr 2 []) (.sl 4 [] 0 G.n 42)),(2,AA G.b G.i G.o (.sl 5 [] 0 G.n 2) G.k),(4,AJ G.n G.c),(5,Be G.n G.v G.gv)]
theorem Q7 {M:Seat} (ok:OkMv M) (G:Gs) (a:Nat) (df:Bool) (v:Dg) (pl:Int) (bd t:BitVec 64) (k i:Nat) (hn:G.n < 1000) (hr:Ty G.l G.g) (ha:a < G.n)
 (hk:k≤20) (hi:i < 2 ^ k) (hp:(G.c a).pos=pw k i) (hb:(G.c a).par < 0 ∨ ∃ p:Nat,(G.c a).par=p∧p < G.n) (he:mvE G a df v pl bd t k i=none) :
 Ae M 247 [.ptr 0 [],(clX a v pl).v,(G.c a).v,.bool df,W bd,W t] G.H 4 (Q3 (Ag (.int .i64 (G.n:Int)) .nili) ((G.mv (mvC G a df v pl t k i) pl.toNat bd).H2) 6):=by
 obtain ⟨D,l,g,s,n,c,b,ii,o,kk,vv,gv⟩:=G
 unfold mvC
 dsimp only [Gs.mv] at *
 unfold mvE at he
 dsimp only at he
 have hF:=EO ok.g D l g s n c (c a) hb
 have hB:=Abc ok.g k hk
 simp only [AJ] at hF
 by_cases h1:D≤k
 ·rw [if_pos h1] at he;cases he
 rw [if_neg h1] at he
 by_cases h2:df=true∧i + 1=2 ^ k
 ·rw [if_pos h2] at he;cases he
 rw [if_neg h2] at he
 have hP:Ae M 350 [.ptr 0 [],(c a).v,.bool df] [(0,AB D l g s (.ptr 2 []) (.sl 1 [] 0 n 42))] 3 (Q3 (Cz (W (anP k i df)) (.int .i64 ((k + 1:Nat):Int)) .nili) [(0,AB D l g s (.ptr 2 []) (.sl 1 [] 0 n 42))] 3):=by
  unfold anP
  cases df with
  | true=>exact NH ok.g D l g s n (c a) k i hk (by have:=Nat.lt_of_le_of_ne hi (fun h=>h2 ⟨rfl,h⟩);omega) hp h1
  | false=>exact Nb ok.g D l g s n (c a) k i hk hi hp h1
 generalize hq:anP k i df=q at *
 by_cases h3:bd=BitVec.ofNat 64 (k + 2)
 case neg=>rw [if_pos h3] at he;cases he
 rw [if_neg (fun h=>h h3)] at he
 have d3:(bd=BitVec.ofNat 64 (k + 2))=True:=eq_true h3
 by_cases h4:∃ j,j < n∧XS (clX a v pl) q (c j)
 ·rw [if_pos h4] at he;cases he
 rw [if_neg h4] at he
 have hC:=K9 ok n hn c (clP a v pl q) q h4
 simp only [clP,Cl.v,Ah] at hC
 by_cases h5:Ng (c a).us (c a).at' (HL c (c a)) t
 ·rw [if_pos h5] at he;cases he
 rw [if_neg h5] at he
 by_cases h6:l≤HL c (c a) + t - (c a).at'
 ·rw [if_pos h6] at he;cases he
 rw [if_neg h6] at he
 have hN:=Qm ok l g (c a).us (c a).at' (HL c (c a)) t hr h5 h6
 simp only [Ah] at hN
 by_cases h7:64≤n
 ·rw [if_pos h7] at he;cases he
 rw [if_neg h7] at he
 have d7:((64:Int)≤(n:Int))=False:=eq_false Aa
 by_cases h8:pl < 0 ∨ 8≤pl
 ·rw [if_pos h8] at he;cases he
 rw [if_neg h8] at he
 by_cases h9:b pl.toNat < bd
 ·rw [if_pos h9] at he;cases he
 obtain ⟨p,rfl⟩:∃ p:Nat,pl=p:=⟨pl.toNat,by omega⟩
 rw [Int.toNat_natCast] at *
 have hL:=Rn ok.g.l b ii o kk p Aa bd h9 n hn (fun j=>AU (vv j) (gv j)) (fun j=>⟨_,_,rfl⟩)
 generalize hu:mnW (HL c (c a) + t - (c a).at') (l - g)=u at *
 have z1:IntKind.i64.wrap (((n + 1:Nat):Int) - 1)=(n:Int):=Br
 have z2:IntKind.i64.wrap ((n:Int) + 1)=((n + 1:Nat):Int):=Br
 refine Ab ok.k247 rfl fun x hx=>?_
 refine es 2000 ?_;(simp only [Akw,Ajv,Gs.H,AB,AH,Ah,clX,Cl.v,AJ,AA,Be,AU,LZ,seval])
 have zz:=GE @AB.eq_1 @AH.eq_1 @Ah.eq_1 @Cl.v.eq_1 @dg.eq_1;refine Co [0,1,2] [0] (hP) ?_
 (simp only [Cz,AB,AH,Ah,LZ,seval])
 refine Al (hB) ?_
 (simp only [d3,LZ,seval])
 have zz:=@dg.eq_1;refine DJ (hC) ?_
 (simp only [LZ,seval])
 have zz:=GE @AB.eq_1 @AH.eq_1 @Ah.eq_1 @Cl.v.eq_1 @dg.eq_1;refine KI [0,1,2] [0,1] (hF) ?_
 (simp only [AB,AH,Ah,Cl.v,LZ,seval])
 have zz:=@dg.eq_1;refine KZ (hN) ?_
 (simp only [BU,d7,seval])
 have zz:=Bo @AA.eq_1 @AU.eq_1;refine KI [2,3] [2,3] (hL) ?_
 (simp only [BU,AA,AU,z1,z2,Nat.testBit,List.map_nil,List.map_cons,CH,seval])
 repeat refine sd ?_
 refine Aq.mk hx [0,1,2,3,1988,1572] [] (Ag (.int .i64 (n:Int)) .nili) (Gs.H2 ⟨D,l,g,s,n + 1,fun j=>if j < n then c j else clN a v p q n u t,fun j=>if j=p then b p - bd else b j,ii,o,kk + bd,fun j=>if j < n then vv j else bd,fun j=>if j < n then gv j else false⟩) 6 Am (by (simp only [Db,seval])) (by simp only [LV,Ag,LY,seval]) ?_ ⟨rfl,rfl,rfl⟩
 simp only [Gs.H2,AB,AH,Ah,AJ,Cl.v,clN,AA,Be,AU,dg,LY,seval]
 (repeat' apply And.intro)
 all_goals
  intro j hj
  by_cases h:j < n
  ·simp only [h,if_true,V.ren,W,LY,seval]
  ·have h0:j - n=0:=Aa
   simp only [h,h0,C8,V.ren,W,LY,seval]
def YC (p:BitVec 64):Nat:=CY p - 1
def ixW (p:BitVec 64):Nat:=p.toNat - 2 ^ YC p
def trW (D:Nat) (p:BitVec 64):BitVec 64:=BitVec.ofNat 64 (LI D (YC p) (ixW p))
theorem QO {k i:Nat} (hk:k≤24) (hi:i < 2 ^ k):YC (pw k i)=k:=by rw [YC,NO hk hi];omega
theorem XK {k i:Nat} (hk:k≤24) (hi:i < 2 ^ k):ixW (pw k i)=i:=by rw [ixW,QO hk hi,N8 hk hi];omega
structure OkGs (M:Seat):Prop where
 v:OkMv M
 c:OkCl M
 le:OkLe M
 k357:Ar M 357 Adc=true
 k359:Ar M 359 IV=true
theorem Rz {M:Seat} (ok:OkGs M) (d:Int) (l g:BitVec 64) (s:Dg) (n:Nat) (c:Nat→Cl) (q:Cl) (t:BitVec 64) (hc:Ty l g) (hq:q.par < 0 ∨ ∃ p:Nat,q.par=p∧p < n) (h:Ng q.us q.at' (HL c q) t) :
 Ae M 357 [.ptr 0 [],q.v,W t] [(0,AB d l g s (.ptr 2 []) (.sl 1 [] 0 n 42)),(1,AJ n c)] 3 (Q3 (Ag (.bool false) (er 2)) [(0,AB d l g s (.ptr 2 []) (.sl 1 [] 0 n 42)),(1,AJ n c)] 3):=by
 have hF:=EO ok.v.g d l g s n c q hq
 have hO:=R8 ok.c l g q.us q.at' (HL c q) t hc h
 generalize HL c q=u at *
 refine Ab ok.k357 rfl fun x hx=>?_
 refine es 2000 ?_;(simp only [Adc,Af5,AB,AH,Ah,Cl.v,AJ,LZ,seval])
 have zz:=Va @AB.eq_1 @AH.eq_1 @Ah.eq_1 @Cl.v.eq_1 @AJ.eq_1 @dg.eq_1;refine KI [0,1,2] [0,1] (hF) ?_
 (simp only [AB,AH,Ah,Cl.v,AJ,LZ,seval])
 have zz:=@Ah.eq_1;refine KZ (hO) ?_
 (simp only [BU,seval])
 have zz:=CX @Ag.eq_1 @dg.eq_1 @Cl.v.eq_1;exact Bu hx [0,1,2] ⟨rfl,rfl,rfl⟩
theorem Q9 {M:Seat} (ok:OkGs M) (d:Int) (l g:BitVec 64) (s:Dg) (n:Nat) (c:Nat→Cl) (q:Cl) (t:BitVec 64) (hc:Ty l g) (hq:q.par < 0 ∨ ∃ p:Nat,q.par=p∧p < n) (h:¬ Ng q.us q.at' (HL c q) t) :
 Ae M 357 [.ptr 0 [],q.v,W t] [(0,AB d l g s (.ptr 2 []) (.sl 1 [] 0 n 42)),(1,AJ n c)] 3 (Q3 (Ag (.bool (decide (l≤HL c q + t - q.at'))) .nili) [(0,AB d l g s (.ptr 2 []) (.sl 1 [] 0 n 42)),(1,AJ n c)] 3):=by
 have hF:=EO ok.v.g d l g s n c q hq
 have hO:=Qw ok.c l g q.us q.at' (HL c q) t hc h
 generalize HL c q=u at *
 refine Ab ok.k357 rfl fun x hx=>?_
 refine es 2000 ?_;(simp only [Adc,Af5,AB,AH,Ah,Cl.v,AJ,LZ,seval])
 have zz:=Va @AB.eq_1 @AH.eq_1 @Ah.eq_1 @Cl.v.eq_1 @AJ.eq_1 @dg.eq_1;refine KI [0,1,2] [0,1] (hF) ?_
 (simp only [AB,AH,Ah,Cl.v,AJ,LZ,seval])
 have zz:=@Ah.eq_1;refine KZ (hO) ?_
 (simp only [BU,seval])
 have zz:=CX @Ag.eq_1 @dg.eq_1 @Cl.v.eq_1;exact Bu hx [0,1,2] ⟨rfl,rfl,rfl⟩
def abv (D:Nat) (c:Nat→Cl) (t:BitVec 64):Nat→Int→Option Nat
 | 0,_=>none
 | f + 1,a=>if a < 0 then none else if trW D (c a.toNat).pos=t then some a.toNat else abv D c t f (c a.toNat).par
def Pls (D n:Nat) (c:Nat→Cl):Prop:=∀ j,j < n→∃ k i,k≤D∧i < 2 ^ k∧(c j).pos=pw k i
def Prs (n:Nat) (c:Nat→Cl):Prop:=∀ j,j < n→(c j).par = -1 ∨ ∃ p:Nat,(c j).par=p∧p < j
def Gs.enA (G:Gs) (a:Nat):Dg :=
 if 0#64 < trW G.D (G.c a).pos then (match abv G.D G.c (trW G.D (G.c a).pos - 1#64) (a + 1) a with | some j=>(G.c j).val | none=>Dg.zero) else G.s
def Gs.enJ (G:Gs) (a:Nat):Option Nat:=abv G.D G.c (trW G.D (G.c a).pos + 1#64) (a + 1) a
structure OkGt (M:Seat):Prop where
 s:OkGs M
def Gs.stP (G:Gs) (a:Nat) (df:Bool) (pl:Int) (t:BitVec 64):Option Int :=
 if pl < 0 ∨ 8≤pl then some 2
 else if ¬ YC (G.c a).pos=G.D then some 45
 else if df=true∧G.enJ a=none then some 45
 else if (G.c a).st=true then some 41
 else if Ng (G.c a).us (G.c a).at' (HL G.c (G.c a)) t then some 2
 else if G.l≤HL G.c (G.c a) + t - (G.c a).at' then some 42
 else none
def Gs.sA (G:Gs) (a:Nat) (df:Bool):Dg:=if df=true then (G.c a).val else G.enA a
structure Gs.wf (G:Gs):Prop where
 hD:G.D≤20
 hn:G.n≤64
 hr:Ty G.l G.g
 pls:Pls G.D G.n G.c
 prs:Prs G.n G.c
theorem RJ {n:Nat} {c:Nat→Cl} (h:Prs n c) {a:Nat} (ha:a < n):(c a).par < 0 ∨ ∃ p:Nat,(c a).par=p∧p < n:=by
 rcases h a ha with h | ⟨p,h,hp⟩
 ·exact .inl Aa
 ·exact .inr ⟨p,h,by omega⟩
end Mv
