/- A part. -/
import Derived.Test.YtpcgkiecjakknaaGreatDoorFH
set_option linter.all false
set_option maxRecDepth 20000
set_option maxHeartbeats 16000000
namespace Mv
open Go
variable {M:Seat}
structure Gs where
 D:Nat
 l:BitVec 64
 g:BitVec 64
 s:Dg
 n:Nat
 c:Nat→Cl
 b:Nat→BitVec 64
 i:BitVec 64
 o:BitVec 64
 k:BitVec 64
 v:Nat→BitVec 64
 gv:Nat→Bool
def A7 (n:Nat) (v:Nat→BitVec 64) (g:Nat→Bool):V:=.ar 2 n fun j=>A4 (v j) (g j)
def Gs.H (G:Gs):Hp:=[(0,Ai G.D G.l G.g G.s (.ptr 2 []) (.sl 1 [] 0 G.n 42)),(1,Ap G.n G.c),(2,Aq G.b G.i G.o (.sl 3 [] 0 G.n 2) G.k),(3,A7 G.n G.v G.gv)]
def Sw (a:Nat) (v:Dg) (pl:Int):Cl:=⟨a,0#64,v,pl,0,0#64,0#64,false,false,false,pl⟩
def clP (a:Nat) (v:Dg) (pl:Int) (q:BitVec 64):Cl:=⟨a,q,v,pl,0,0#64,0#64,false,false,false,pl⟩
def clN (a:Nat) (v:Dg) (pl:Int) (q:BitVec 64) (n:Nat) (u t:BitVec 64):Cl:=⟨a,q,v,pl,n,u,t,false,false,false,pl⟩
def Ks (k i:Nat) (df:Bool):BitVec 64:=if df=true then pw (k + 1) (2 * i + 2) else pw (k + 1) (2 * i)
instance (u a b n:BitVec 64):Decidable (Gy u a b n):=by unfold Gy;infer_instance
def Zs (G:Gs) (a:Nat) (df:Bool) (v:Dg) (pl:Int) (bd t:BitVec 64) (k i:Nat):Option Int :=
 if G.D≤k then some 45
 else if df=true∧i + 1=2 ^ k then some 45
 else if ¬ bd=BitVec.ofNat 64 (k + 2) then some 40
 else if ∃ j,j < G.n∧M4 (Sw a v pl) (Ks k i df) (G.c j) then some 41
 else if Gy (G.c a).us (G.c a).at' (CQ G.c (G.c a)) t then some 2
 else if G.l≤CQ G.c (G.c a) + t - (G.c a).at' then some 42
 else if 64≤G.n then some 5
 else if pl < 0 ∨ 8≤pl then some 2
 else if G.b pl.toNat < bd then some 21
 else none
theorem Aoa (ok:OkGm M) (k:Nat) (hk:k≤20):Ag M 120 [.int .i64 ((k + 1:Nat):Int)] [] 0 (Q3 (W (BitVec.ofNat 64 (k + 2))) [] 0):=by
 have hB:=Dh ok.n ((k + 1:Nat):Int)
 rw [if_neg Aa] at hB
 have:BitVec.ofInt 64 ((k + 1:Nat):Int) + 1#64=BitVec.ofNat 64 (k + 2):=by
  rw [BitVec.ofInt_natCast,show k + 2=k + 1 + 1 by omega,BitVec.ofNat_add (k + 1)]
 rw [this] at hB
 exact hB
theorem Pw (ok:OkMv M) (G:Gs) (a:Nat) (df:Bool) (v:Dg) (pl:Int) (bd t:BitVec 64) (k i:Nat) (hn:G.n < 1000) (hr:Oa G.l G.g) (ha:a < G.n)
 (hk:k≤20) (hi:i < 2 ^ k) (hp:(G.c a).pos=pw k i) (hb:(G.c a).par < 0 ∨ ∃ p:Nat,(G.c a).par=p∧p < G.n) (z:Int) (he:Zs G a df v pl bd t k i=some z) :
 Ag M 247 [.ptr 0 [],(Sw a v pl).v,(G.c a).v,.bool df,W bd,W t] G.H 4 (Q3 (Ah (.int .i64 0) (er z)) G.H 4):=by
 obtain ⟨D,l,g,s,n,c,b,ii,o,kk,vv,gv⟩:=G
 dsimp only at *
 unfold Zs at he
 dsimp only at he
 have hF:=Dc ok.g D l g s n c (c a) hb
 have hB:=Aoa ok.g k hk
 simp only [Ap] at hF
 refine Ab ok.k247 rfl fun x hx=>?_
 by_cases h1:D≤k
 ·rw [if_pos h1] at he
  cases he
  have hP:=N5 ok.g D l g s n (c a) k i hk hi hp h1 df
  refine es 2000 ?_;(simp only [Ot,Ol,Gs.H,Ai,Al,Ac,Sw,Cl.v,Ap,Aq,A7,A4,LZ,seval])
  have zz:=GM @Ai.eq_1 @Al.eq_1 @Ac.eq_1 @Cl.v.eq_1 @dg.eq_1;refine Bw [0,1,2] [0] (hP) ?_
  (simp only [AS,Ai,Al,Ac,LZ,seval])
  have zz:=C4 @Ah.eq_1 @dg.eq_1 @Cl.v.eq_1;exact Bf hx [0,1,2,3] ⟨rfl,rfl,rfl⟩
 rw [if_neg h1] at he
 by_cases h2:df=true∧i + 1=2 ^ k
 ·rw [if_pos h2] at he
  cases he
  obtain ⟨rfl,h2⟩:=h2
  have hP:=MU ok.g D l g s n (c a) k hk (by rw [hp,show i=2 ^ k - 1 by omega]) h1
  refine es 2000 ?_;(simp only [Ot,Ol,Gs.H,Ai,Al,Ac,Sw,Cl.v,Ap,Aq,A7,A4,LZ,seval])
  have zz:=GM @Ai.eq_1 @Al.eq_1 @Ac.eq_1 @Cl.v.eq_1 @dg.eq_1;refine Bw [0,1,2] [0] (hP) ?_
  (simp only [AS,Ai,Al,Ac,LZ,seval])
  have zz:=C4 @Ah.eq_1 @dg.eq_1 @Cl.v.eq_1;exact Bf hx [0,1,2,3] ⟨rfl,rfl,rfl⟩
 rw [if_neg h2] at he
 have hP:Ag M 350 [.ptr 0 [],(c a).v,.bool df] [(0,Ai D l g s (.ptr 2 []) (.sl 1 [] 0 n 42))] 3 (Q3 (AS (W (Ks k i df)) (.int .i64 ((k + 1:Nat):Int)) .nili) [(0,Ai D l g s (.ptr 2 []) (.sl 1 [] 0 n 42))] 3):=by
  unfold Ks
  cases df with
  | true=>exact Gw ok.g D l g s n (c a) k i hk (by have:=Nat.lt_of_le_of_ne hi (fun h=>h2 ⟨rfl,h⟩);omega) hp h1
  | false=>exact GH ok.g D l g s n (c a) k i hk hi hp h1
 generalize hq:Ks k i df=q at *
 refine es 2000 ?_;(simp only [Ot,Ol,Gs.H,Ai,Al,Ac,Sw,Cl.v,Ap,Aq,A7,A4,LZ,seval])
 have zz:=GM @Ai.eq_1 @Al.eq_1 @Ac.eq_1 @Cl.v.eq_1 @dg.eq_1;refine Bw [0,1,2] [0] (hP) ?_
 (simp only [AS,Ai,Al,Ac,LZ,seval])
 refine Ak (hB) ?_
 by_cases h3:bd=BitVec.ofNat 64 (k + 2)
 case neg =>
  rw [if_pos h3] at he
  cases he
  (simp only [h3,LZ,seval])
  have zz:=C4 @Ah.eq_1 @dg.eq_1 @Cl.v.eq_1;exact Bf hx [0,1,2,3] ⟨rfl,rfl,rfl⟩
 rw [if_neg (fun h=>h h3)] at he
 have d3:(bd=BitVec.ofNat 64 (k + 2))=True:=eq_true h3
 (simp only [d3,LZ,seval])
 by_cases h4:∃ j,j < n∧M4 (Sw a v pl) q (c j)
 ·rw [if_pos h4] at he
  cases he
  have hC:=IB ok n hn c (clP a v pl q) q h4
  simp only [clP,Cl.v,Ac] at hC
  have zz:=@dg.eq_1;refine Ce (hC) ?_
  (simp only [LZ,seval])
  have zz:=C4 @Ah.eq_1 @dg.eq_1 @Cl.v.eq_1;exact Bf hx [0,1,2,3] ⟨rfl,rfl,rfl⟩
 rw [if_neg h4] at he
 have hC:=Fe ok n hn c (clP a v pl q) q h4
 simp only [clP,Cl.v,Ac] at hC
 have zz:=@dg.eq_1;refine Ce (hC) ?_
 (simp only [LZ,seval])
 have zz:=GM @Ai.eq_1 @Al.eq_1 @Ac.eq_1 @Cl.v.eq_1 @dg.eq_1;refine L9 [0,1,2] [0,1] (hF) ?_
 (simp only [Ai,Al,Ac,Cl.v,LZ,seval])
 by_cases h5:Gy (c a).us (c a).at' (CQ c (c a)) t
 ·rw [if_pos h5] at he
  cases he
  have hN:=Pn ok l g (c a).us (c a).at' (CQ c (c a)) t hr h5
  simp only [Ac] at hN
  have zz:=@dg.eq_1;refine G0 (hN) ?_
  (simp only [AH,seval])
  have zz:=C4 @Ah.eq_1 @dg.eq_1 @Cl.v.eq_1;exact Bf hx [0,1,2,3] ⟨rfl,rfl,rfl⟩
 rw [if_neg h5] at he
 by_cases h6:l≤CQ c (c a) + t - (c a).at'
 ·rw [if_pos h6] at he
  cases he
  have hN:=OV ok l g (c a).us (c a).at' (CQ c (c a)) t hr h5 h6
  simp only [Ac] at hN
  have zz:=@dg.eq_1;refine G0 (hN) ?_
  (simp only [AH,seval])
  have zz:=C4 @Ah.eq_1 @dg.eq_1 @Cl.v.eq_1;exact Bf hx [0,1,2,3] ⟨rfl,rfl,rfl⟩
 rw [if_neg h6] at he
 have hN:=I8 ok l g (c a).us (c a).at' (CQ c (c a)) t hr h5 h6
 simp only [Ac] at hN
 have zz:=@dg.eq_1;refine G0 (hN) ?_
 by_cases h7:64≤n
 ·rw [if_pos h7] at he
  cases he
  have d7:((64:Int)≤(n:Int))=True:=eq_true Aa
  (simp only [AH,d7,seval])
  have zz:=C4 @Ah.eq_1 @dg.eq_1 @Cl.v.eq_1;exact Bf hx [0,1,2,3] ⟨rfl,rfl,rfl⟩
 rw [if_neg h7] at he
 have d7:((64:Int)≤(n:Int))=False:=eq_false Aa
 (simp only [AH,d7,seval])
 by_cases h8:pl < 0 ∨ 8≤pl
 ·rw [if_pos h8] at he
  cases he
  have hL:=PA ok.g.l pl h8 bd
  refine obK [2] [] (hL) (by constructor <;> (try simp only [LY,seval]) <;> exact q1) (by simp only [LX]) ?_
  (simp only [AH,seval])
  have zz:=C4 @Ah.eq_1 @dg.eq_1 @Cl.v.eq_1;exact Bf hx [0,1,2,3] ⟨rfl,rfl,rfl⟩
 rw [if_neg h8] at he
 by_cases h9:b pl.toNat < bd
 ·rw [if_pos h9] at he
  cases he
  obtain ⟨p,rfl⟩:∃ p:Nat,pl=p:=⟨pl.toNat,by omega⟩
  rw [Int.toNat_natCast] at h9
  have hL:=OY ok.g.l b ii o (.sl 1 [] 0 n 2) 2 (.inr ⟨n,rfl,rfl⟩) kk p Aa bd h9
  have zz:=Bb @Aq.eq_1 @A4.eq_1;refine L9 [2,3] [2] (hL) ?_
  (simp only [AH,Aq,A4,seval])
  have zz:=C4 @Ah.eq_1 @dg.eq_1 @Cl.v.eq_1;exact Bf hx [0,1,2,3] ⟨rfl,rfl,rfl⟩
 rw [if_neg h9] at he
 cases he
def Gs.mv (G:Gs) (x:Cl) (p:Nat) (bd:BitVec 64):Gs:=⟨G.D,G.l,G.g,G.s,G.n + 1,fun j=>if j < G.n then G.c j else x,fun j=>if j=p then G.b p - bd else G.b j,G.i,G.o,G.k + bd,fun j=>if j < G.n then G.v j else bd,fun j=>if j < G.n then G.gv j else false⟩
def IE (G:Gs) (a:Nat) (df:Bool) (v:Dg) (pl:Int) (t:BitVec 64) (k i:Nat):Cl:=clN a v pl (Ks k i df) G.n (YI (CQ G.c (G.c a) + t - (G.c a).at') (G.l - G.g)) t
def Gs.H2 (G:Gs):Hp:=[(0,Ai G.D G.l G.g G.s (.ptr 2 []) (.sl 4 [] 0 G.n 42)),(2,Aq G.b G.i G.o (.sl 5 [] 0 G.n 2) G.k),(4,Ap G.n G.c),(5,A7 G.n G.v G.gv)]
theorem OE (ok:OkMv M) (G:Gs) (a:Nat) (df:Bool) (v:Dg) (pl:Int) (bd t:BitVec 64) (k i:Nat) (hn:G.n < 1000) (hr:Oa G.l G.g) (ha:a < G.n)
 (hk:k≤20) (hi:i < 2 ^ k) (hp:(G.c a).pos=pw k i) (hb:(G.c a).par < 0 ∨ ∃ p:Nat,(G.c a).par=p∧p < G.n) (he:Zs G a df v pl bd t k i=none) :
 Ag M 247 [.ptr 0 [],(Sw a v pl).v,(G.c a).v,.bool df,W bd,W t] G.H 4 (Q3 (Ah (.int .i64 (G.n:Int)) .nili) ((G.mv (IE G a df v pl t k i) pl.toNat bd).H2) 6):=by
 obtain ⟨D,l,g,s,n,c,b,ii,o,kk,vv,gv⟩:=G
 unfold IE
 dsimp only [Gs.mv] at *
 unfold Zs at he
 dsimp only at he
 have hF:=Dc ok.g D l g s n c (c a) hb
 have hB:=Aoa ok.g k hk
 simp only [Ap] at hF
 by_cases h1:D≤k
 ·rw [if_pos h1] at he;cases he
 rw [if_neg h1] at he
 by_cases h2:df=true∧i + 1=2 ^ k
 ·rw [if_pos h2] at he;cases he
 rw [if_neg h2] at he
 have hP:Ag M 350 [.ptr 0 [],(c a).v,.bool df] [(0,Ai D l g s (.ptr 2 []) (.sl 1 [] 0 n 42))] 3 (Q3 (AS (W (Ks k i df)) (.int .i64 ((k + 1:Nat):Int)) .nili) [(0,Ai D l g s (.ptr 2 []) (.sl 1 [] 0 n 42))] 3):=by
  unfold Ks
  cases df with
  | true=>exact Gw ok.g D l g s n (c a) k i hk (by have:=Nat.lt_of_le_of_ne hi (fun h=>h2 ⟨rfl,h⟩);omega) hp h1
  | false=>exact GH ok.g D l g s n (c a) k i hk hi hp h1
 generalize hq:Ks k i df=q at *
 by_cases h3:bd=BitVec.ofNat 64 (k + 2)
 case neg=>rw [if_pos h3] at he;cases he
 rw [if_neg (fun h=>h h3)] at he
 have d3:(bd=BitVec.ofNat 64 (k + 2))=True:=eq_true h3
 by_cases h4:∃ j,j < n∧M4 (Sw a v pl) q (c j)
 ·rw [if_pos h4] at he;cases he
 rw [if_neg h4] at he
 have hC:=Fe ok n hn c (clP a v pl q) q h4
 simp only [clP,Cl.v,Ac] at hC
 by_cases h5:Gy (c a).us (c a).at' (CQ c (c a)) t
 ·rw [if_pos h5] at he;cases he
 rw [if_neg h5] at he
 by_cases h6:l≤CQ c (c a) + t - (c a).at'
 ·rw [if_pos h6] at he;cases he
 rw [if_neg h6] at he
 have hN:=I8 ok l g (c a).us (c a).at' (CQ c (c a)) t hr h5 h6
 simp only [Ac] at hN
 by_cases h7:64≤n
 ·rw [if_pos h7] at he;cases he
 rw [if_neg h7] at he
 have d7:((64:Int)≤(n:Int))=False:=eq_false Aa
 by_cases h8:pl < 0 ∨ 8≤pl
 ·rw [if_pos h8] at he;cases he
 rw [if_neg h8] at he
 by_cases h9:b pl.toNat < bd
 ·rw [if_pos h9] at he;cases he
 obtain ⟨p,rfl⟩:∃ p:Nat,pl=p:=⟨pl.toNat,by omega⟩
 rw [Int.toNat_natCast] at *
 have hL:=J6 ok.g.l b ii o kk p Aa bd h9 n hn (fun j=>A4 (vv j) (gv j)) (fun j=>⟨_,_,rfl⟩)
 generalize hu:YI (CQ c (c a) + t - (c a).at') (l - g)=u at *
 have z1:IntKind.i64.wrap (((n + 1:Nat):Int) - 1)=(n:Int):=AZ
 have z2:IntKind.i64.wrap ((n:Int) + 1)=((n + 1:Nat):Int):=AZ
 refine Ab ok.k247 rfl fun x hx=>?_
 refine es 2000 ?_;(simp only [Ot,Ol,Gs.H,Ai,Al,Ac,Sw,Cl.v,Ap,Aq,A7,A4,LZ,seval])
 have zz:=GM @Ai.eq_1 @Al.eq_1 @Ac.eq_1 @Cl.v.eq_1 @dg.eq_1;refine Bw [0,1,2] [0] (hP) ?_
 (simp only [AS,Ai,Al,Ac,LZ,seval])
 refine Ak (hB) ?_
 (simp only [d3,LZ,seval])
 have zz:=@dg.eq_1;refine Ce (hC) ?_
 (simp only [LZ,seval])
 have zz:=GM @Ai.eq_1 @Al.eq_1 @Ac.eq_1 @Cl.v.eq_1 @dg.eq_1;refine L9 [0,1,2] [0,1] (hF) ?_
 (simp only [Ai,Al,Ac,Cl.v,LZ,seval])
 have zz:=@dg.eq_1;refine G0 (hN) ?_
 (simp only [AH,d7,seval])
 have zz:=Bb @Aq.eq_1 @A4.eq_1;refine L9 [2,3] [2,3] (hL) ?_
 (simp only [AH,Aq,A4,z1,z2,Nat.testBit,List.map_nil,List.map_cons,B3,seval])
 repeat refine sd ?_
 refine Ar.mk hx [0,1,2,3,1988,1572] [] (Ah (.int .i64 (n:Int)) .nili) (Gs.H2 ⟨D,l,g,s,n + 1,fun j=>if j < n then c j else clN a v p q n u t,fun j=>if j=p then b p - bd else b j,ii,o,kk + bd,fun j=>if j < n then vv j else bd,fun j=>if j < n then gv j else false⟩) 6 Am (by (simp only [CU,seval])) (by simp only [LV,Ah,LY,seval]) ?_ ⟨rfl,rfl,rfl⟩
 simp only [Gs.H2,Ai,Al,Ac,Ap,Cl.v,clN,Aq,A7,A4,dg,LY,seval]
 (repeat' apply And.intro)
 all_goals
  intro j hj
  by_cases h:j < n
  ·simp only [h,if_true,V.ren,W,LY,seval]
  ·have h0:j - n=0:=Aa
   simp only [h,h0,CL,V.ren,W,LY,seval]
variable {M:Seat}
def Ia (p:BitVec 64):Nat:=Cu p - 1
def Wt (p:BitVec 64):Nat:=p.toNat - 2 ^ Ia p
def Ys (D:Nat) (p:BitVec 64):BitVec 64:=BitVec.ofNat 64 (Zp D (Ia p) (Wt p))
theorem Cr {k i:Nat} (hk:k≤24) (hi:i < 2 ^ k):Ia (pw k i)=k:=by rw [Ia,MI hk hi];omega
theorem Ej {k i:Nat} (hk:k≤24) (hi:i < 2 ^ k):Wt (pw k i)=i:=by rw [Wt,Cr hk hi,L2 hk hi];omega
theorem PU {D k i:Nat} (hk:k≤24) (hi:i < 2 ^ k):Ys D (pw k i)=BitVec.ofNat 64 (Zp D k i):=by rw [Ys,Cr hk hi,Ej hk hi]
structure OkGs (M:Seat):Prop where
 v:OkMv M
 c:OkCl M
 le:OkLe M
 k357:Au M 357 Abq=true
 k359:Au M 359 Aaj=true
 k454:Au M 454 Af5=true
 k356:Au M 356 Tw=true
theorem IL (ok:OkGs M) (d:Int) (l g:BitVec 64) (s:Dg) (n:Nat) (c:Nat→Cl) (q:Cl) (t:BitVec 64) (hc:Oa l g) (hq:q.par < 0 ∨ ∃ p:Nat,q.par=p∧p < n) (h:Gy q.us q.at' (CQ c q) t) :
 Ag M 357 [.ptr 0 [],q.v,W t] [(0,Ai d l g s (.ptr 2 []) (.sl 1 [] 0 n 42)),(1,Ap n c)] 3 (Q3 (Ah (.bool false) (er 2)) [(0,Ai d l g s (.ptr 2 []) (.sl 1 [] 0 n 42)),(1,Ap n c)] 3):=by
 have hF:=Dc ok.v.g d l g s n c q hq
 have hO:=PI ok.c l g q.us q.at' (CQ c q) t hc h
 generalize CQ c q=u at *
 refine Ab ok.k357 rfl fun x hx=>?_
 refine es 2000 ?_;(simp only [Abq,Aan,Ai,Al,Ac,Cl.v,Ap,LZ,seval])
 have zz:=Db @Ai.eq_1 @Al.eq_1 @Ac.eq_1 @Cl.v.eq_1 @Ap.eq_1 @dg.eq_1;refine L9 [0,1,2] [0,1] (hF) ?_
 (simp only [Ai,Al,Ac,Cl.v,Ap,LZ,seval])
 have zz:=@Ac.eq_1;refine G0 (hO) ?_
 (simp only [AH,seval])
 have zz:=C4 @Ah.eq_1 @dg.eq_1 @Cl.v.eq_1;exact Bf hx [0,1,2] ⟨rfl,rfl,rfl⟩
theorem J8 (ok:OkGs M) (d:Int) (l g:BitVec 64) (s:Dg) (n:Nat) (c:Nat→Cl) (q:Cl) (t:BitVec 64) (hc:Oa l g) (hq:q.par < 0 ∨ ∃ p:Nat,q.par=p∧p < n) (h:¬ Gy q.us q.at' (CQ c q) t) :
 Ag M 357 [.ptr 0 [],q.v,W t] [(0,Ai d l g s (.ptr 2 []) (.sl 1 [] 0 n 42)),(1,Ap n c)] 3 (Q3 (Ah (.bool (decide (l≤CQ c q + t - q.at'))) .nili) [(0,Ai d l g s (.ptr 2 []) (.sl 1 [] 0 n 42)),(1,Ap n c)] 3):=by
 have hF:=Dc ok.v.g d l g s n c q hq
 have hO:=PG ok.c l g q.us q.at' (CQ c q) t hc h
 generalize CQ c q=u at *
 refine Ab ok.k357 rfl fun x hx=>?_
 refine es 2000 ?_;(simp only [Abq,Aan,Ai,Al,Ac,Cl.v,Ap,LZ,seval])
 have zz:=Db @Ai.eq_1 @Al.eq_1 @Ac.eq_1 @Cl.v.eq_1 @Ap.eq_1 @dg.eq_1;refine L9 [0,1,2] [0,1] (hF) ?_
 (simp only [Ai,Al,Ac,Cl.v,Ap,LZ,seval])
 have zz:=@Ac.eq_1;refine G0 (hO) ?_
 (simp only [AH,seval])
 have zz:=C4 @Ah.eq_1 @dg.eq_1 @Cl.v.eq_1;exact Bf hx [0,1,2] ⟨rfl,rfl,rfl⟩
def Sx (D:Nat) (c:Nat→Cl) (t:BitVec 64):Nat→Int→Option Nat
 | 0,_=>none
 | f + 1,a=>if a < 0 then none else if Ys D (c a.toNat).pos=t then some a.toNat else Sx D c t f (c a.toNat).par
def Pls (D n:Nat) (c:Nat→Cl):Prop:=∀ j,j < n→∃ k i,k≤D∧i < 2 ^ k∧(c j).pos=pw k i
def Prs (n:Nat) (c:Nat→Cl):Prop:=∀ j,j < n→(c j).par = -1 ∨ ∃ p:Nat,(c j).par=p∧p < j
def Yt (c:Nat→Cl) (o:Option Nat):V:=match o with
 | some j=>Ah (c j).v (.bool true)
 | none=>Ah Cl.zero.v (.bool false)
theorem HJ (ok:OkGs M) (D:Nat) (hD:D≤20) (l g:BitVec 64) (s:Dg) (n:Nat) (c:Nat→Cl) (hp:Pls D n c) (hr:Prs n c) (a:Nat) (ha:a < n) (t:BitVec 64) :
 Ag M 454 [.ptr 0 [],.int .i64 a,W t] [(0,Ai D l g s (.ptr 2 []) (.sl 1 [] 0 n 42)),(1,Ap n c)] 3 (Q3 (Yt c (Sx D c t (a + 1) a)) [(0,Ai D l g s (.ptr 2 []) (.sl 1 [] 0 n 42)),(1,Ap n c)] 3):=by
 generalize hR:Sx D c t (a + 1) a=R
 refine Ab ok.k454 rfl fun x hx=>?_
 refine es 2000 ?_;(simp only [Af5,Agc,Ai,Al,Ac,Ap,LZ,seval])
 refine An (σ:=Int) (fun b=>(b = -1 ∨ ∃ p:Nat,b=p∧p < n)∧∃ f,(b + 1).toNat≤f∧Sx D c t f b=R) (fun b=>fr 54 [(0,.ptr 0 []),(2,W t),(6,.ptr 3 []),(7,.bool false),(8,.int .i64 b)]) (fun _=>[(0,Ai D l g s (.ptr 2 []) (.sl 1 [] 0 n 42)),(1,Ap n c),(3,Cl.zero.v)]) (fun _=>4) (fun b=>(b + 1).toNat) a ⟨.inr ⟨a,rfl,ha⟩,a + 1,by omega,hR⟩ ?_ ?_
 ·refine Ao.fr [0,1,2,3] [] hx AQ Am ?_ ?_
  all_goals simp only [Ai,Al,Ac,Ap,Cl.v,Cl.zero,dg,implies_true,LY,seval]
 ·intro b ⟨hb,f,hf,hfb⟩
  refine es 2000 ?_
  rcases hb with rfl | ⟨p,rfl,hpn⟩
  ·have d0:(0≤(-1:Int))=False:=eq_false Aa
   have hR:R=none:=by
    cases f with
    | zero=>exact hfb.symm
    | succ f=>rw [Sx,if_pos Aa] at hfb;exact hfb.symm
   subst hR
   (simp only [d0,Cl.zero,Cl.v,Ac,LZ,seval])
   repeat refine sd ?_
   have zz:=Ho @Yt.eq_1 @Yt.eq_2 @Ah.eq_1 @Cl.zero.eq_1 @Cl.v.eq_1 @Ac.eq_1 @Ap.eq_1 @Ai.eq_1 @Al.eq_1 @dg.eq_1;exact Bf hx [0,1,2] ⟨rfl,rfl,rfl⟩
  ·obtain ⟨k,i,hk,hi,hpos⟩:=hp p hpn
   have hT:=FA ok.v.g.p ok.k359 (show D≤24 by omega) hk hi
   have d0:(0≤(p:Int))=True:=eq_true Aa
   have d1:((p:Int) < (n:Int))=True:=eq_true Aa
   have hpar:=hr p hpn
   obtain ⟨f,rfl⟩:∃ f',f=f' + 1:=⟨f - 1,by omega⟩
   rw [Sx,if_neg Aa,Int.toNat_natCast,hpos,PU Aa hi] at hfb
   generalize BitVec.ofNat 64 (Zp D k i)=w at *
   (simp only [d0,d1,Ai,Al,Ac,Ap,Cl.v,hpos,LZ,seval])
   repeat refine sd ?_
   refine Bq (hT) ?_
   by_cases hw:w=t
   ·rw [if_pos hw] at hfb
    subst hfb
    (simp only [AH,hw,d0,d1,Ai,Al,Ac,Ap,Cl.v,hpos,seval])
    repeat refine sd ?_
    have zz:=Ho @Yt.eq_1 @Yt.eq_2 @Ah.eq_1 @Cl.v.eq_1 @Ac.eq_1 @Ap.eq_1 @Ai.eq_1 @Al.eq_1 @dg.eq_1 hpos;exact Bf hx [0,1,2] ⟨rfl,rfl,rfl⟩
   ·rw [if_neg hw] at hfb
    have hw:=eq_false hw
    (simp only [AH,hw,d0,d1,Ai,Al,Ac,Ap,Cl.v,hpos,seval])
    repeat refine sd ?_
    have e1:((p:Int) + 1).toNat=p + 1:=rfl
    rw [e1] at hf
    have e2:((c p).par + 1).toNat≤p:=by
     rcases hpar with h | ⟨q,h,h1⟩
     ·rw [h];exact Nat.zero_le _
     ·rw [h];exact h1
    refine ⟨(c p).par,hpar.imp_right (fun ⟨q,h,h1⟩=>⟨q,h,by omega⟩),⟨f,by omega,hfb⟩,by rw [e1];omega,?_⟩
    refine Ao.fr [0,1,2,3] [] hx AQ Am ?_ ?_
    all_goals simp only [Ai,Al,Ac,Ap,Cl.v,Cl.zero,dg,hpos,implies_true,LY,seval]
def Aru:LC:=(sr [A1 4 (.mv (.c (.bool false)))] (sr [mt 5 0,
  aU 6 .geq 5 1,mt 7 6,mg 8 7 true 0,A2 9 7 true (.ari .leq (.t 8) (cU 1099511627776)),
  Fq 10 7 9,mt 11 10,mg 12 11 true 1,mg 13 11 true 0,A2 14 11 true (.ari .leq (.t 12) (.t 13)),
  Fq 15 11 14,mt 4 15] .ret))
def Ark:LF:=⟨Aru,2,0,16,[.tmp 4]⟩
def Ase:LC:=(sr [mU 2 0,
 mI 3 0] (sr [mt 8 0,kl 9 361 [(.t 8)],mt 7 9,ee 10 7 0,ee 11 7 1,ee 12 7 2,mt 4 10,mt 5 11,mt 6 12] (.seq (sr [mt 13 6,aI 14 .neq 13 0] (.cond (.t 14) (sr [mt 15 6,
  mU 2 0,mt 3 15] .ret) .skip)) (sr [mt 16 4,aI 17 .add 16 1,mt 18 5,
  aV 19 .mul 2 18,kl 20 362 [(.t 17),(.t 19)],ee 21 20 0,ee 22 20 1,mt 2 21,mt 3 22] .ret))))
def Art:LF:=⟨Ase,1,0,23,[.tmp 2,.tmp 3]⟩
def Aql:LC:=(sr [mU 2 0,
 mI 3 0] (sr [mt 9 0,kl 10 361 [(.t 9)],mt 8 10,ee 11 8 0,ee 12 8 1,ee 13 8 2,mt 4 11,mt 5 12,mt 6 13] (.seq (sr [mt 14 6,aI 15 .neq 14 0,mt 16 15,mg 17 16 false 4,A2 18 16 false (.ari .eql (.t 17) (cI 24)),
  BV 19 16 18] (.cond (.t 19) (sr [mU 2 0,
  mI 3 2] .ret) .skip)) (sr [mt 21 4,aI 22 .add 21 1,mt 23 5,
  aV 24 .mul 2 23,
  aU 25 .add 24 2,kl 26 362 [(.t 22),(.t 25)],mt 20 26,ee 27 20 0,ee 28 20 1,mt 7 27,mt 6 28] (.seq (sr [mt 29 6,aI 30 .neq 29 0] (.cond (.t 30) (sr [mU 2 0,
  mI 3 45] .ret) .skip)) (sr [mt 31 7,mt 2 31,
  mI 3 0] .ret))))))
def Aqu:LF:=⟨Aql,1,0,32,[.tmp 2,.tmp 3]⟩
def Apd:LC:=(sr [mU 12 0,
 mI 13 0] (.seq (sr [mt 16 0,mt 17 1,kl 18 264 [(.t 16),(.t 17)],A1 19 (.un .not (.t 18))] (.cond (.t 19) (sr [mU 12 0,
  mI 13 2] .ret) .skip)) (sr [mt 21 2,mt 22 3,mt 23 4,mt 24 5,kl 25 273 [(.t 21),(.t 22),(.t 23),(.t 24)],mt 20 25,ee 26 20 0,ee 27 20 1,mt 14 26,mt 15 27] (.seq (sr [mt 28 15,aI 29 .neq 28 0] (.cond (.t 29) (sr [mt 30 15,
  mU 12 0,mt 13 30] .ret) .skip)) (.seq (sr [mt 31 14,mt 32 0,ak 33 .geq 31 32] (.cond (.t 33) (sr [mU 12 0,
  mI 13 42] .ret) .skip)) (.seq (sr [mt 34 14,mt 35 0,mt 36 1,ak 37 .sub 35 36,ak 38 .gtr 34 37] (.cond (.t 38) (sr [mt 39 0,mt 40 1,ak 41 .sub 39 40,mt 12 41,
  mI 13 0] .ret) .skip)) (sr [mt 42 14,mt 12 42,
  mI 13 0] .ret)))))))
def Ao9:LF:=⟨Apd,6,0,43,[.tmp 12,.tmp 13]⟩
def Asb:LC:=(sr [mU 4 0,
 mI 5 0] (sr [mt 11 0,kl 12 361 [(.t 11)],mt 10 12,ee 13 10 0,ee 14 10 1,ee 15 10 2,mt 6 13,mt 7 14,mt 8 15] (.seq (sr [mt 16 8,aI 17 .neq 16 0,mt 18 17,mg 19 18 false 1,mg 20 18 false 6,A2 21 18 false (.ari .lss (.t 19) (.t 20)),
  BV 22 18 21,mt 23 22,mg 24 23 false 1,A2 25 23 false (.ari .gtr (.t 24) (cI 24)),
  BV 26 23 25] (.cond (.t 26) (sr [mU 4 0,
  mI 5 2] .ret) .skip)) (.seq (sr [mt 27 6,mt 9 27] (.block 0 (.loop (.seq (sr [mt 28 9,mt 29 1,ak 30 .lss 28 29]
 (Dd 30 0)) (.seq (.block 1 (.reg [mt 33 7,
  aV 34 .mul 2 33,
  aU 35 .add 34 1,mt 7 35])) (.reg [mt 31 9,aI 32 .add 31 1,mt 9 32])))))) (sr [mt 36 7,mt 4 36,
  mI 5 0] .ret)))))
def Asf:LF:=⟨Asb,2,0,37,[.tmp 4,.tmp 5]⟩
def Anp:LC:=(sr [mU 8 0,
 mI 9 0] (.seq (sr [mt 10 3,mt 11 1,ak 12 .lss 10 11,mt 13 12,mg 14 13 false 0,A2 15 13 false (.ari .gtr (.t 14) (cU 1099511627776)),
  BV 16 13 15,mt 17 16,mg 18 17 false 1,A2 19 17 false (.ari .gtr (.t 18) (cU 1099511627776)),
  BV 20 17 19,mt 21 20,mg 22 21 false 2,A2 23 21 false (.ari .gtr (.t 22) (cU 1099511627776)),
  BV 24 21 23,mt 25 24,mg 26 25 false 3,A2 27 25 false (.ari .gtr (.t 26) (cU 1099511627776)),
  BV 28 25 27] (.cond (.t 28) (sr [mU 8 0,
  mI 9 2] .ret) .skip)) (sr [mt 29 2,mt 30 3,mt 31 1,ak 32 .sub 30 31,ak 33 .add 29 32,mt 8 33,
  mI 9 0] .ret)))
def Any:LF:=⟨Anp,4,0,34,[.tmp 8,.tmp 9]⟩
def Ar5:LC:=(sr [mI 2 0,
 mU 3 0,
 mI 4 0] (sr [mU 5 1] (.seq (sr [mI 6 0] (.block 0 (.loop (.seq (sr [mt 7 6,aI 8 .leq 7 24]
 (Dd 8 0)) (.seq (.block 1 (.seq (sr [mt 11 0,mt 12 5,ak 13 .geq 11 12,mt 14 13,mg 15 14 true 0,mg 16 14 true 5,A2 17 14 true (.ari .mul (cU 2) (.t 16)),A2 18 14 true (.ari .lss (.t 15) (.t 17)),
  Fq 19 14 18] (.cond (.t 19) (sr [mt 20 6,mt 21 0,mt 22 5,ak 23 .sub 21 22,mt 2 20,mt 3 23,
  mI 4 0] .ret) .skip)) (.reg [mt 24 5,
  aU 25 .mul 24 2,mt 5 25]))) (.reg [mt 9 6,aI 10 .add 9 1,mt 6 10])))))) (sr [mI 2 0,
  mU 3 0,
  mI 4 2] .ret))))
def Asm:LF:=⟨Ar5,1,0,26,[.tmp 2,.tmp 3,.tmp 4]⟩
def Aqn:LC:=(sr [mU 4 0,
 mI 5 0] (.seq (sr [mt 8 0,aI 9 .lss 8 0,mt 10 9,mg 11 10 false 0,A2 12 10 false (.ari .gtr (.t 11) (cI 24)),
  BV 13 10 12] (.cond (.t 13) (sr [mU 4 0,
  mI 5 2] .ret) .skip)) (sr [mU 6 1] (.seq (sr [mI 7 0] (.block 0 (.loop (.seq (sr [mt 14 7,mt 15 0,ak 16 .lss 14 15]
 (Dd 16 0)) (.seq (.block 1 (.reg [mt 19 6,
  aU 20 .mul 19 2,mt 6 20])) (.reg [mt 17 7,aI 18 .add 17 1,mt 7 18])))))) (.seq (sr [mt 21 1,mt 22 6,ak 23 .geq 21 22] (.cond (.t 23) (sr [mU 4 0,
  mI 5 2] .ret) .skip)) (sr [mt 24 6,mt 25 1,ak 26 .add 24 25,mt 4 26,
  mI 5 0] .ret))))))
def Aqo:LF:=⟨Aqn,2,0,27,[.tmp 4,.tmp 5]⟩
variable {M:Seat}
structure OkDp (M:Seat):Prop where
 k361:Au M 361 Asm=true
 k362:Au M 362 Aqo=true
 k266:Au M 266 Art=true
 k267:Au M 267 Aqu=true
 k270:Au M 270 Asf=true
 k264:Au M 264 Ark=true
 k268:Au M 268 Ao9=true
 k273:Au M 273 Any=true
def p2 (d:Nat):BitVec 64:=BitVec.ofNat 64 (2 ^ d)
theorem Amb {d:Nat} (hd:d≤25):(p2 d).toNat=2 ^ d:=by
 have:2 ^ d≤33554432:=Nat.pow_le_pow_right (n:=2) Am hd
 rw [p2,BitVec.toNat_ofNat,Nat.mod_eq_of_lt Aa]
theorem An3 (d:Nat):p2 d * 2#64=p2 (d + 1):=by rw [p2,p2,Nat.pow_succ,BitVec.ofNat_mul]
theorem An8 (d:Nat):2#64 * p2 d=p2 (d + 1):=by rw [p2,p2,Nat.pow_succ,BitVec.ofNat_mul,BitVec.mul_comm]
theorem Aks (ok:OkDp M) {k i:Nat} (hk:k≤24) (hi:i < 2 ^ k):Ag M 361 [W (pw k i)] [] 0 (Q3 (AS (.int .i64 k) (W (BitVec.ofNat 64 i)) (.int .i64 0)) [] 0):=by
 have hn:=L2 hk hi
 refine Ab ok.k361 rfl fun x hx=>?_
 refine es 2000 ?_;(simp only [Asm,Ar5,LZ,seval])
 refine An (σ:=Nat) (fun d=>d≤k) (fun d=>fr 26 [(0,W (pw k i)),(5,W (p2 d)),(6,.int .i64 d)]) (fun _=>[]) (fun _=>0) (fun d=>k - d) 0 Aa ?_ ?_
 ·refine Ao.fr [] [] hx AQ Am ?_ ?_
  all_goals simp only [p2,Nat.pow_zero,Int.natCast_zero,LY,seval]
 ·intro d hd
  refine es 2000 ?_
  have w0:((d:Int)≤24)=True:=eq_true Aa
  have z0:IntKind.i64.wrap ((d:Int) + 1)=((d + 1:Nat):Int):=AZ
  have hge:(p2 d≤pw k i)=True:=eq_true (by
   rw [BitVec.le_def,hn,Amb Aa]
   have:=Nat.pow_le_pow_right (n:=2) Am hd
   omega)
  by_cases hdk:d=k
  ·subst hdk
   have hlt:(pw d i < p2 (d + 1))=True:=eq_true (by rw [BitVec.lt_def,hn,Amb Aa,Nat.pow_succ];omega)
   have e1:pw d i - p2 d=BitVec.ofNat 64 i:=by have:=ZV hk hi;rw [sh1] at this;exact this
   (simp only [w0,hge,An8,hlt,e1,LZ,seval])
   have zz:=@AS.eq_1;exact Bf hx [] ⟨rfl,rfl,rfl⟩
  ·have hlt:(pw k i < p2 (d + 1))=False:=eq_false (by
    rw [BitVec.lt_def,hn,Amb Aa]
    have:=Nat.pow_le_pow_right (n:=2) Am (show d + 1≤k by omega)
    omega)
   (simp only [w0,hge,An8,hlt,An3,z0,LZ,seval])
   refine ⟨d + 1,by omega,by omega,?_⟩
   refine Ao.fr [] [] hx AQ Am ?_ ?_
   all_goals simp only [LY,seval]
theorem Alq (ok:OkDp M) {k i:Nat} (hk:k≤24) (hi:i < 2 ^ k):Ag M 362 [.int .i64 k,W (BitVec.ofNat 64 i)] [] 0 (Q3 (Ah (W (pw k i)) (.int .i64 0)) [] 0):=by
 have hp:=Tu hk
 refine Ab ok.k362 rfl fun x hx=>?_
 have e0:((k:Int) < 0)=False:=eq_false Aa
 have e1:((24:Int) < (k:Int))=False:=eq_false Aa
 have hc:(p2 k≤BitVec.ofNat 64 i)=(2 ^ k≤i):=by
  rw [BitVec.le_def,Amb Aa,BitVec.toNat_ofNat,Nat.mod_eq_of_lt Aa]
 have e2:p2 k + BitVec.ofNat 64 i=pw k i:=by rw [p2,pw,BitVec.ofNat_add]
 refine es 2000 ?_;(simp only [Aqo,Aqn,e0,e1,LZ,seval])
 refine An (σ:=Nat) (fun d=>d≤k) (fun d=>fr 27 [(0,.int .i64 k),(1,W (BitVec.ofNat 64 i)),(6,W (p2 d)),(7,.int .i64 d)]) (fun _=>[]) (fun _=>0) (fun d=>k - d) 0 Aa ?_ ?_
 ·refine Ao.fr [] [] hx AQ Am ?_ ?_
  all_goals simp only [p2,Nat.pow_zero,Int.natCast_zero,LY,seval]
 ·intro d hd
  refine es 2000 ?_
  have z0:IntKind.i64.wrap ((d:Int) + 1)=((d + 1:Nat):Int):=AZ
  by_cases hdk:d=k
  ·subst hdk
   have w0:((d:Int) < (d:Int))=False:=eq_false Aa
   first
   | (have hc2 := hc.trans (eq_false Aa)
      (simp only [w0,hc2,e2,LZ,seval])
      (have zz:=@Ah.eq_1;exact Bf hx [] ⟨rfl,rfl,rfl⟩))
   | (have hc2 := hc.trans (eq_true hi.1)
      (simp only [w0,hc2,e2,LZ,seval])
      (have zz:=@Ah.eq_1;exact Bf hx [] ⟨rfl,rfl,rfl⟩))
  ·have w0:((d:Int) < (k:Int))=True:=eq_true Aa
   (simp only [w0,An3,z0,LZ,seval])
   refine ⟨d + 1,by omega,by omega,?_⟩
   refine Ao.fr [] [] hx AQ Am ?_ ?_
   all_goals simp only [LY,seval]
theorem Anf (ok:OkDp M) {k i:Nat} (hk:k≤24) (hi:2 ^ k≤i∧i < 2 ^ 26):Ag M 362 [.int .i64 k,W (BitVec.ofNat 64 i)] [] 0 (Q3 (Ah (W 0#64) (.int .i64 2)) [] 0):=by
 have hp:=Tu hk
 refine Ab ok.k362 rfl fun x hx=>?_
 have e0:((k:Int) < 0)=False:=eq_false Aa
 have e1:((24:Int) < (k:Int))=False:=eq_false Aa
 have hc:(p2 k≤BitVec.ofNat 64 i)=(2 ^ k≤i):=by
  rw [BitVec.le_def,Amb Aa,BitVec.toNat_ofNat,Nat.mod_eq_of_lt Aa]
 have e2:p2 k + BitVec.ofNat 64 i=pw k i:=by rw [p2,pw,BitVec.ofNat_add]
 refine es 2000 ?_;(simp only [Aqo,Aqn,e0,e1,LZ,seval])
 refine An (σ:=Nat) (fun d=>d≤k) (fun d=>fr 27 [(0,.int .i64 k),(1,W (BitVec.ofNat 64 i)),(6,W (p2 d)),(7,.int .i64 d)]) (fun _=>[]) (fun _=>0) (fun d=>k - d) 0 Aa ?_ ?_
 ·refine Ao.fr [] [] hx AQ Am ?_ ?_
  all_goals simp only [p2,Nat.pow_zero,Int.natCast_zero,LY,seval]
 ·intro d hd
  refine es 2000 ?_
  have z0:IntKind.i64.wrap ((d:Int) + 1)=((d + 1:Nat):Int):=AZ
  by_cases hdk:d=k
  ·subst hdk
   have w0:((d:Int) < (d:Int))=False:=eq_false Aa
   first
   | (have hc2 := hc.trans (eq_false Aa)
      (simp only [w0,hc2,e2,LZ,seval])
      (have zz:=@Ah.eq_1;exact Bf hx [] ⟨rfl,rfl,rfl⟩))
   | (have hc2 := hc.trans (eq_true hi.1)
      (simp only [w0,hc2,e2,LZ,seval])
      (have zz:=@Ah.eq_1;exact Bf hx [] ⟨rfl,rfl,rfl⟩))
  ·have w0:((d:Int) < (k:Int))=True:=eq_true Aa
   (simp only [w0,An3,z0,LZ,seval])
   refine ⟨d + 1,by omega,by omega,?_⟩
   refine Ao.fr [] [] hx AQ Am ?_ ?_
   all_goals simp only [LY,seval]
theorem Alh (ok:OkDp M) {k i:Nat} (hk:k < 24) (hi:i < 2 ^ k):Ag M 266 [W (pw k i)] [] 0 (Q3 (Ah (W (pw (k + 1) (2 * i))) (.int .i64 0)) [] 0):=by
 have hM:=Alq ok (k:=k + 1) (i:=2 * i) Aa (by rw [Nat.pow_succ];omega)
 refine Ab ok.k266 rfl fun x hx=>?_
 have z1:IntKind.i64.wrap ((k:Int) + 1)=((k + 1:Nat):Int):=AZ
 refine es 2000 ?_;(simp only [Art,Ase,LZ,seval])
 refine Ak (Aks ok (Nat.le_of_lt hk) hi) ?_
 (simp only [AS,z1,Zr,LZ,seval])
 refine Ak (hM) ?_
 (simp only [AH,seval])
 have zz:=@Ah.eq_1;exact Bf hx [] ⟨rfl,rfl,rfl⟩
theorem Ak8 (ok:OkDp M) {k i:Nat} (hk:k < 24) (hi:i + 1 < 2 ^ k):Ag M 267 [W (pw k i)] [] 0 (Q3 (Ah (W (pw (k + 1) (2 * i + 2))) (.int .i64 0)) [] 0):=by
 have hM:=Alq ok (k:=k + 1) (i:=2 * i + 2) Aa (by rw [Nat.pow_succ];omega)
 refine Ab ok.k267 rfl fun x hx=>?_
 have z1:IntKind.i64.wrap ((k:Int) + 1)=((k + 1:Nat):Int):=AZ
 have e0:((k:Int)=24)=False:=eq_false Aa
 refine es 2000 ?_;(simp only [Aqu,Aql,LZ,seval])
 refine Ak (Aks ok (Nat.le_of_lt hk) (show i < 2 ^ k by omega)) ?_
 (simp only [AS,z1,e0,Zr,Ach,LZ,seval])
 refine Ak (hM) ?_
 (simp only [AH,seval])
 have zz:=@Ah.eq_1;exact Bf hx [] ⟨rfl,rfl,rfl⟩
theorem Ak7 (ok:OkDp M) {k i:Nat} (hk:k < 24) (hi:i + 1=2 ^ k):Ag M 267 [W (pw k i)] [] 0 (Q3 (Ah (W 0#64) (.int .i64 45)) [] 0):=by
 have hM:=Anf ok (k:=k + 1) (i:=2 * i + 2) Aa (by rw [Nat.pow_succ];have:=Tu (show k≤24 by omega);omega)
 refine Ab ok.k267 rfl fun x hx=>?_
 have z1:IntKind.i64.wrap ((k:Int) + 1)=((k + 1:Nat):Int):=AZ
 have e0:((k:Int)=24)=False:=eq_false Aa
 refine es 2000 ?_;(simp only [Aqu,Aql,LZ,seval])
 refine Ak (Aks ok (Nat.le_of_lt hk) (show i < 2 ^ k by omega)) ?_
 (simp only [AS,z1,e0,Zr,Ach,LZ,seval])
 refine Ak (hM) ?_
 (simp only [AH,seval])
 have zz:=@Ah.eq_1;exact Bf hx [] ⟨rfl,rfl,rfl⟩
theorem Ao0 (k i d:Nat):2#64 * BitVec.ofNat 64 (Zp (k + d) k i) + 1#64=BitVec.ofNat 64 (Zp (k + d + 1) k i):=by
 rw [← BitVec.ofNat_mul,← BitVec.ofNat_add]
 congr 1
 unfold Zp
 rw [show k + d - k=d by omega,show k + d + 1 - k=d + 1 by omega,Nat.pow_succ]
 have:=Nat.one_le_two_pow (n:=d)
 have h2:1 * 2 ^ d≤(i + 1) * 2 ^ d:=Nat.mul_le_mul_right _ Aa
 have h3:(i + 1) * (2 ^ d * 2)=2 * ((i + 1) * 2 ^ d):=by rw [← Nat.mul_assoc,Nat.mul_comm]
 omega
theorem Akx (ok:OkDp M) {D k i:Nat} (hD:D≤24) (hk:k≤D) (hi:i < 2 ^ k):Ag M 270 [W (pw k i),.int .i64 D] [] 0 (Q3 (Ah (W (BitVec.ofNat 64 (Zp D k i))) (.int .i64 0)) [] 0):=by
 refine Ab ok.k270 rfl fun x hx=>?_
 have e0:((D:Int) < (k:Int))=False:=eq_false Aa
 have e1:((24:Int) < (D:Int))=False:=eq_false Aa
 refine es 2000 ?_;(simp only [Asf,Asb,LZ,seval])
 refine Ak (Aks ok (show k≤24 by omega) hi) ?_
 (simp only [AS,e0,e1,LZ,seval])
 refine An (σ:=Nat) (fun d=>k + d≤D) (fun d=>fr 37 [(1,.int .i64 D),(7,W (BitVec.ofNat 64 (Zp (k + d) k i))),(9,.int .i64 ((k + d:Nat):Int))]) (fun _=>[]) (fun _=>0) (fun d=>D - (k + d)) 0 Aa ?_ ?_
 ·refine Ao.fr [] [] hx AQ Am ?_ ?_
  all_goals simp only [Zp,Nat.add_zero,Nat.sub_self,Nat.pow_zero,Nat.mul_one,Nat.add_sub_cancel,LY,seval]
 ·intro d hd
  refine es 2000 ?_
  have z0:IntKind.i64.wrap (((k + d:Nat):Int) + 1)=((k + (d + 1):Nat):Int):=AZ
  by_cases hdk:k + d=D
  ·have w0:(((k + d:Nat):Int) < (D:Int))=False:=eq_false Aa
   subst hdk
   (simp only [w0,LZ,seval])
   have zz:=@Ah.eq_1;exact Bf hx [] ⟨rfl,rfl,rfl⟩
  ·have w0:(((k + d:Nat):Int) < (D:Int))=True:=eq_true Aa
   (simp only [w0,Ao0,z0,LZ,seval])
   refine ⟨d + 1,by omega,by omega,?_⟩
   refine Ao.fr [] [] hx AQ Am ?_ ?_
   all_goals simp only [Nat.add_assoc,LY,seval]
theorem Akf (ok:OkDp M) (l g:BitVec 64) (b:Bool) (h:b=true ↔ Oa l g):Ag M 264 [W l,W g] [] 0 (Q3 (.bool b) [] 0):=by
 refine Ab ok.k264 rfl fun x hx=>?_
 unfold Oa at h
 have a1:(1#64≤l)=(¬ l < 1#64):=propext (by rw [BitVec.le_def,BitVec.lt_def];omega)
 have a2:(l≤1099511627776#64)=(¬ 1099511627776#64 < l):=propext (by rw [BitVec.le_def,BitVec.lt_def];omega)
 have a3:(g≤l)=(¬ l < g):=propext (by rw [BitVec.le_def,BitVec.lt_def];omega)
 by_cases h1:l < 1#64 <;> by_cases h2:1099511627776#64 < l <;> by_cases h3:l < g <;> simp only [h1,h2,h3,not_true_eq_false,not_false_eq_true,RF,false_and,and_false,iff_false,iff_true] at h
 all_goals
  first | (have h:=h.symm ▸ trivial;skip) | skip
 all_goals
  first | subst h | (obtain rfl:b=false:=by simpa using h)
  simp only [h1,h2,h3,not_true_eq_false,not_false_eq_true] at a1 a2 a3
  refine es 2000 ?_;(simp only [Ark,Aru,a1,a2,a3,LZ,seval])
  exact Ar.mkZ hx [] ⟨rfl,rfl,rfl⟩
theorem Amo {a b m:BitVec 64}:m < Kv a b ↔ m < a ∨ m < b:=by
 unfold Kv
 split
 ·next h=>rw [BitVec.lt_def] at h;rw [BitVec.lt_def,BitVec.lt_def];omega
 ·next h=>rw [BitVec.lt_def] at h;rw [BitVec.lt_def,BitVec.lt_def];omega
theorem Akn (ok:OkDp M) (u a b n:BitVec 64) (h:Gy u a b n):Ag M 273 [W u,W a,W b,W n] [] 0 (Q3 (Ah (W 0#64) (.int .i64 2)) [] 0):=by
 refine Ab ok.k273 rfl fun x hx=>?_
 unfold Gy at h
 rw [Amo,Amo,Amo] at h
 by_cases h0:n < a
 ·refine es 2000 ?_;(simp only [Any,Anp,h0,LZ,seval])
  have zz:=@Ah.eq_1;exact Bf hx [] ⟨rfl,rfl,rfl⟩
 by_cases h1:1099511627776#64 < u
 ·refine es 2000 ?_;(simp only [Any,Anp,h0,h1,LZ,seval])
  have zz:=@Ah.eq_1;exact Bf hx [] ⟨rfl,rfl,rfl⟩
 by_cases h2:1099511627776#64 < a
 ·refine es 2000 ?_;(simp only [Any,Anp,h0,h1,h2,LZ,seval])
  have zz:=@Ah.eq_1;exact Bf hx [] ⟨rfl,rfl,rfl⟩
 by_cases h3:1099511627776#64 < b
 ·refine es 2000 ?_;(simp only [Any,Anp,h0,h1,h2,h3,LZ,seval])
  have zz:=@Ah.eq_1;exact Bf hx [] ⟨rfl,rfl,rfl⟩
 have h4:1099511627776#64 < n:=by
  rcases h with h | ((h | h) | h) | h
  ·exact absurd h h0
  ·exact absurd h h1
  ·exact absurd h h2
  ·exact absurd h h3
  ·exact h
 refine es 2000 ?_;(simp only [Any,Anp,h0,h1,h2,h3,h4,LZ,seval])
 have zz:=@Ah.eq_1;exact Bf hx [] ⟨rfl,rfl,rfl⟩
theorem Aki (ok:OkDp M) (u a b n:BitVec 64) (h:¬ Gy u a b n):Ag M 273 [W u,W a,W b,W n] [] 0 (Q3 (Ah (W (b + n - a)) (.int .i64 0)) [] 0):=by
 refine Ab ok.k273 rfl fun x hx=>?_
 unfold Gy at h
 rw [Amo,Amo,Amo] at h
 have h0:¬ n < a:=fun q=>h (.inl q)
 have h1:¬ 1099511627776#64 < u:=fun q=>h (.inr (.inl (.inl (.inl q))))
 have h2:¬ 1099511627776#64 < a:=fun q=>h (.inr (.inl (.inl (.inr q))))
 have h3:¬ 1099511627776#64 < b:=fun q=>h (.inr (.inl (.inr q)))
 have h4:¬ 1099511627776#64 < n:=fun q=>h (.inr (.inr q))
 have e:b + (n - a)=b + n - a:=by rw [BitVec.sub_eq_add_neg,BitVec.sub_eq_add_neg,BitVec.add_assoc]
 refine es 2000 ?_;(simp only [Any,Anp,h0,h1,h2,h3,h4,e,LZ,seval])
 have zz:=@Ah.eq_1;exact Bf hx [] ⟨rfl,rfl,rfl⟩
theorem Aln (ok:OkDp M) (l g u a b n:BitVec 64) (hc:Oa l g) (h:Gy u a b n):Ag M 268 [W l,W g,W u,W a,W b,W n] [] 0 (Q3 (Ah (W 0#64) (.int .i64 2)) [] 0):=by
 refine Ab ok.k268 rfl fun x hx=>?_
 refine es 2000 ?_;(simp only [Ao9,Apd,LZ,seval])
 refine Ak (Akf ok l g true ⟨fun _=>hc,fun _=>rfl⟩) ?_
 (simp only [LZ,seval])
 refine Ak (Akn ok u a b n h) ?_
 (simp only [AH,seval])
 have zz:=@Ah.eq_1;exact Bf hx [] ⟨rfl,rfl,rfl⟩
theorem Alv (ok:OkDp M) (l g u a b n:BitVec 64) (hc:Oa l g) (h:¬ Gy u a b n) (hl:l≤b + n - a):Ag M 268 [W l,W g,W u,W a,W b,W n] [] 0 (Q3 (Ah (W 0#64) (.int .i64 42)) [] 0):=by
 refine Ab ok.k268 rfl fun x hx=>?_
 refine es 2000 ?_;(simp only [Ao9,Apd,LZ,seval])
 refine Ak (Akf ok l g true ⟨fun _=>hc,fun _=>rfl⟩) ?_
 (simp only [LZ,seval])
 refine Ak (Aki ok u a b n h) ?_
 (simp only [AH,hl,seval])
 have zz:=@Ah.eq_1;exact Bf hx [] ⟨rfl,rfl,rfl⟩
theorem Alu (ok:OkDp M) (l g u a b n:BitVec 64) (hc:Oa l g) (h:¬ Gy u a b n) (hl:¬ l≤b + n - a):Ag M 268 [W l,W g,W u,W a,W b,W n] [] 0 (Q3 (Ah (W (YI (b + n - a) (l - g))) (.int .i64 0)) [] 0):=by
 refine Ab ok.k268 rfl fun x hx=>?_
 unfold YI
 by_cases h1:l - g < b + n - a
 ·rw [show (if b + n - a < l - g then b + n - a else l - g)=l - g from if_neg (by rw [BitVec.lt_def] at h1 ⊢;omega)]
  refine es 2000 ?_;(simp only [Ao9,Apd,LZ,seval])
  refine Ak (Akf ok l g true ⟨fun _=>hc,fun _=>rfl⟩) ?_
  (simp only [LZ,seval])
  refine Ak (Aki ok u a b n h) ?_
  (simp only [AH,hl,h1,seval])
  have zz:=@Ah.eq_1;exact Bf hx [] ⟨rfl,rfl,rfl⟩
 ·rw [show (if b + n - a < l - g then b + n - a else l - g)=b + n - a by
   by_cases h2:b + n - a < l - g
   ·exact if_pos h2
   ·rw [if_neg h2];apply BitVec.eq_of_toNat_eq;rw [BitVec.lt_def] at h1 h2;omega]
  refine es 2000 ?_;(simp only [Ao9,Apd,LZ,seval])
  refine Ak (Akf ok l g true ⟨fun _=>hc,fun _=>rfl⟩) ?_
  (simp only [LZ,seval])
  refine Ak (Aki ok u a b n h) ?_
  (simp only [AH,hl,h1,seval])
  have zz:=@Ah.eq_1;exact Bf hx [] ⟨rfl,rfl,rfl⟩
end Mv
