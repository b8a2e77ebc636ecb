/- A part. -/
import Derived.Test.YtlfkjfonpacelaaGreatDoorFL
set_option linter.all false
set_option maxRecDepth 20000
set_option maxHeartbeats 16000000
namespace Mv
open Go
structure Gs where
 D:Nat
 l:BitVec 64
 g:BitVec 64
 s:Dg
 n:Nat
 c:Nat→Cl
 b:Nat→BitVec 64
 i:BitVec 64
 o:BitVec 64
 k:BitVec 64
 v:Nat→BitVec 64
 gv:Nat→Bool
def A7 (n:Nat) (v:Nat→BitVec 64) (g:Nat→Bool):V:=.ar 2 n fun j=>A4 (v j) (g j)
def Gs.H (G:Gs):Hp:=[(0,Ai G.D G.l G.g G.s (.ptr 2 []) (.sl 1 [] 0 G.n 42)),(1,Ap G.n G.c),(2,Aq G.b G.i G.o (.sl 3 [] 0 G.n 2) G.k),(3,A7 G.n G.v G.gv)]
def Sw (a:Nat) (v:Dg) (pl:Int):Cl:=⟨a,0#64,v,pl,0,0#64,0#64,false,false,false,pl⟩
def clP (a:Nat) (v:Dg) (pl:Int) (q:BitVec 64):Cl:=⟨a,q,v,pl,0,0#64,0#64,false,false,false,pl⟩
def clN (a:Nat) (v:Dg) (pl:Int) (q:BitVec 64) (n:Nat) (u t:BitVec 64):Cl:=⟨a,q,v,pl,n,u,t,false,false,false,pl⟩
def Ks (k i:Nat) (df:Bool):BitVec 64:=if df=true then pw (k + 1) (2 * i + 2) else pw (k + 1) (2 * i)
instance (u a b n:BitVec 64):Decidable (Gy u a b n):=by unfold Gy;infer_instance
def Zs (G:Gs) (a:Nat) (df:Bool) (v:Dg) (pl:Int) (bd t:BitVec 64) (k i:Nat):Option Int :=
 if G.D≤k then some 45
 else if df=true∧i + 1=2 ^ k then some 45
 else if ¬ bd=BitVec.ofNat 64 (k + 2) then some 40
 else if ∃ j,j < G.n∧M4 (Sw a v pl) (Ks k i df) (G.c j) then some 41
 else if Gy (G.c a).us (G.c a).at' (CQ G.c (G.c a)) t then some 2
 else if G.l≤CQ G.c (G.c a) + t - (G.c a).at' then some 42
 else if 64≤G.n then some 5
 else if pl < 0 ∨ 8≤pl then some 2
 else if G.b pl.toNat < bd then some 21
 else none
theorem Aoa {M:Seat} (ok:OkGm M) (k:Nat) (hk:k≤20):Ag M 120 [.int .i64 ((k + 1:Nat):Int)] [] 0 (Q3 (W (BitVec.ofNat 64 (k + 2))) [] 0):=by
 have hB:=Dh ok.n ((k + 1:Nat):Int)
 rw [if_neg Aa] at hB
 have:BitVec.ofInt 64 ((k + 1:Nat):Int) + 1#64=BitVec.ofNat 64 (k + 2):=by
  rw [BitVec.ofInt_natCast,show k + 2=k + 1 + 1 by omega,BitVec.ofNat_add (k + 1)]
 rw [this] at hB
 exact hB
def Gs.mv (G:Gs) (x:Cl) (p:Nat) (bd:BitVec 64):Gs:=⟨G.D,G.l,G.g,G.s,G.n + 1,fun j=>if j < G.n then G.c j else x,fun j=>if j=p then G.b p - bd else G.b j,G.i,G.o,G.k + bd,fun j=>if j < G.n then G.v j else bd,fun j=>if j < G.n then G.gv j else false⟩
def IE (G:Gs) (a:Nat) (df:Bool) (v:Dg) (pl:Int) (t:BitVec 64) (k i:Nat):Cl:=clN a v pl (Ks k i df) G.n (YI (CQ G.c (G.c a) + t - (G.c a).at') (G.l - G.g)) t
def Gs.H2 (G:Gs):Hp:=[(0,Ai G.D G.l G.g G.s (.ptr 2 []) (.sl 4 [] 0 G.n 42)),(2,Aq G.b G.i G.o (.sl 5 [] 0 G.n 2) G.k),(4,Ap G.n G.c),(5,A7 G.n G.v G.gv)]
theorem OE {M:Seat} (ok:OkMv M) (G:Gs) (a:Nat) (df:Bool) (v:Dg) (pl:Int) (bd t:BitVec 64) (k i:Nat) (hn:G.n < 1000) (hr:Oa G.l G.g) (ha:a < G.n)
 (hk:k≤20) (hi:i < 2 ^ k) (hp:(G.c a).pos=pw k i) (hb:(G.c a).par < 0 ∨ ∃ p:Nat,(G.c a).par=p∧p < G.n) (he:Zs G a df v pl bd t k i=none) :
 Ag M 247 [.ptr 0 [],(Sw a v pl).v,(G.c a).v,.bool df,W bd,W t] G.H 4 (Q3 (Ah (.int .i64 (G.n:Int)) .nili) ((G.mv (IE G a df v pl t k i) pl.toNat bd).H2) 6):=by
 obtain ⟨D,l,g,s,n,c,b,ii,o,kk,vv,gv⟩:=G
 unfold IE
 dsimp only [Gs.mv] at *
 unfold Zs at he
 dsimp only at he
 have hF:=Dc ok.g D l g s n c (c a) hb
 have hB:=Aoa ok.g k hk
 simp only [Ap] at hF
 by_cases h1:D≤k
 ·rw [if_pos h1] at he;cases he
 rw [if_neg h1] at he
 by_cases h2:df=true∧i + 1=2 ^ k
 ·rw [if_pos h2] at he;cases he
 rw [if_neg h2] at he
 have hP:Ag M 350 [.ptr 0 [],(c a).v,.bool df] [(0,Ai D l g s (.ptr 2 []) (.sl 1 [] 0 n 42))] 3 (Q3 (AS (W (Ks k i df)) (.int .i64 ((k + 1:Nat):Int)) .nili) [(0,Ai D l g s (.ptr 2 []) (.sl 1 [] 0 n 42))] 3):=by
  unfold Ks
  cases df with
  | true=>exact Gw ok.g D l g s n (c a) k i hk (by have:=Nat.lt_of_le_of_ne hi (fun h=>h2 ⟨rfl,h⟩);omega) hp h1
  | false=>exact GH ok.g D l g s n (c a) k i hk hi hp h1
 generalize hq:Ks k i df=q at *
 by_cases h3:bd=BitVec.ofNat 64 (k + 2)
 case neg=>rw [if_pos h3] at he;cases he
 rw [if_neg (fun h=>h h3)] at he
 have d3:(bd=BitVec.ofNat 64 (k + 2))=True:=eq_true h3
 by_cases h4:∃ j,j < n∧M4 (Sw a v pl) q (c j)
 ·rw [if_pos h4] at he;cases he
 rw [if_neg h4] at he
 have hC:=Fe ok n hn c (clP a v pl q) q h4
 simp only [clP,Cl.v,Ac] at hC
 by_cases h5:Gy (c a).us (c a).at' (CQ c (c a)) t
 ·rw [if_pos h5] at he;cases he
 rw [if_neg h5] at he
 by_cases h6:l≤CQ c (c a) + t - (c a).at'
 ·rw [if_pos h6] at he;cases he
 rw [if_neg h6] at he
 have hN:=I8 ok l g (c a).us (c a).at' (CQ c (c a)) t hr h5 h6
 simp only [Ac] at hN
 by_cases h7:64≤n
 ·rw [if_pos h7] at he;cases he
 rw [if_neg h7] at he
 have d7:((64:Int)≤(n:Int))=False:=eq_false Aa
 by_cases h8:pl < 0 ∨ 8≤pl
 ·rw [if_pos h8] at he;cases he
 rw [if_neg h8] at he
 by_cases h9:b pl.toNat < bd
 ·rw [if_pos h9] at he;cases he
 obtain ⟨p,rfl⟩:∃ p:Nat,pl=p:=⟨pl.toNat,by omega⟩
 rw [Int.toNat_natCast] at *
 have hL:=J6 ok.g.l b ii o kk p Aa bd h9 n hn (fun j=>A4 (vv j) (gv j)) (fun j=>⟨_,_,rfl⟩)
 generalize hu:YI (CQ c (c a) + t - (c a).at') (l - g)=u at *
 have z1:IntKind.i64.wrap (((n + 1:Nat):Int) - 1)=(n:Int):=AZ
 have z2:IntKind.i64.wrap ((n:Int) + 1)=((n + 1:Nat):Int):=AZ
 refine Ab ok.k247 rfl fun x hx=>?_
 refine es 2000 ?_;(simp only [Ot,Ol,Gs.H,Ai,Al,Ac,Sw,Cl.v,Ap,Aq,A7,A4,LZ,seval])
 have zz:=GM @Ai.eq_1 @Al.eq_1 @Ac.eq_1 @Cl.v.eq_1 @dg.eq_1;refine Bw [0,1,2] [0] (hP) ?_
 (simp only [AS,Ai,Al,Ac,LZ,seval])
 refine Ak (hB) ?_
 (simp only [d3,LZ,seval])
 have zz:=@dg.eq_1;refine Ce (hC) ?_
 (simp only [LZ,seval])
 have zz:=GM @Ai.eq_1 @Al.eq_1 @Ac.eq_1 @Cl.v.eq_1 @dg.eq_1;refine L9 [0,1,2] [0,1] (hF) ?_
 (simp only [Ai,Al,Ac,Cl.v,LZ,seval])
 have zz:=@dg.eq_1;refine G0 (hN) ?_
 (simp only [AH,d7,seval])
 have zz:=Bb @Aq.eq_1 @A4.eq_1;refine L9 [2,3] [2,3] (hL) ?_
 (simp only [AH,Aq,A4,z1,z2,Nat.testBit,List.map_nil,List.map_cons,B3,seval])
 repeat refine sd ?_
 refine Ar.mk hx [0,1,2,3,1988,1572] [] (Ah (.int .i64 (n:Int)) .nili) (Gs.H2 ⟨D,l,g,s,n + 1,fun j=>if j < n then c j else clN a v p q n u t,fun j=>if j=p then b p - bd else b j,ii,o,kk + bd,fun j=>if j < n then vv j else bd,fun j=>if j < n then gv j else false⟩) 6 Am (by (simp only [CU,seval])) (by simp only [LV,Ah,LY,seval]) ?_ ⟨rfl,rfl,rfl⟩
 simp only [Gs.H2,Ai,Al,Ac,Ap,Cl.v,clN,Aq,A7,A4,dg,LY,seval]
 (repeat' apply And.intro)
 all_goals
  intro j hj
  by_cases h:j < n
  ·simp only [h,if_true,V.ren,W,LY,seval]
  ·have h0:j - n=0:=Aa
   simp only [h,h0,CL,V.ren,W,LY,seval]
def Ia (p:BitVec 64):Nat:=Cu p - 1
def Wt (p:BitVec 64):Nat:=p.toNat - 2 ^ Ia p
def Ys (D:Nat) (p:BitVec 64):BitVec 64:=BitVec.ofNat 64 (Zp D (Ia p) (Wt p))
theorem Cr {k i:Nat} (hk:k≤24) (hi:i < 2 ^ k):Ia (pw k i)=k:=by rw [Ia,MI hk hi];omega
theorem Ej {k i:Nat} (hk:k≤24) (hi:i < 2 ^ k):Wt (pw k i)=i:=by rw [Wt,Cr hk hi,L2 hk hi];omega
structure OkGs (M:Seat):Prop where
 v:OkMv M
 c:OkCl M
 le:OkLe M
 k359:Au M 359 Aaj=true
def Sx (D:Nat) (c:Nat→Cl) (t:BitVec 64):Nat→Int→Option Nat
 | 0,_=>none
 | f + 1,a=>if a < 0 then none else if Ys D (c a.toNat).pos=t then some a.toNat else Sx D c t f (c a.toNat).par
def Pls (D n:Nat) (c:Nat→Cl):Prop:=∀ j,j < n→∃ k i,k≤D∧i < 2 ^ k∧(c j).pos=pw k i
def Prs (n:Nat) (c:Nat→Cl):Prop:=∀ j,j < n→(c j).par = -1 ∨ ∃ p:Nat,(c j).par=p∧p < j
def Gs.enA (G:Gs) (a:Nat):Dg :=
 if 0#64 < Ys G.D (G.c a).pos then (match Sx G.D G.c (Ys G.D (G.c a).pos - 1#64) (a + 1) a with | some j=>(G.c j).val | none=>Dg.zero) else G.s
def Gs.enJ (G:Gs) (a:Nat):Option Nat:=Sx G.D G.c (Ys G.D (G.c a).pos + 1#64) (a + 1) a
structure OkGt (M:Seat):Prop where
 s:OkGs M
def Gs.stP (G:Gs) (a:Nat) (df:Bool) (pl:Int) (t:BitVec 64):Option Int :=
 if pl < 0 ∨ 8≤pl then some 2
 else if ¬ Ia (G.c a).pos=G.D then some 45
 else if df=true∧G.enJ a=none then some 45
 else if (G.c a).st=true then some 41
 else if Gy (G.c a).us (G.c a).at' (CQ G.c (G.c a)) t then some 2
 else if G.l≤CQ G.c (G.c a) + t - (G.c a).at' then some 42
 else none
def Gs.sA (G:Gs) (a:Nat) (df:Bool):Dg:=if df=true then (G.c a).val else G.enA a
structure Gs.wf (G:Gs):Prop where
 hD:G.D≤20
 hn:G.n≤64
 hr:Oa G.l G.g
 pls:Pls G.D G.n G.c
 prs:Prs G.n G.c
theorem Hk {n:Nat} {c:Nat→Cl} (h:Prs n c) {a:Nat} (ha:a < n):(c a).par < 0 ∨ ∃ p:Nat,(c a).par=p∧p < n:=by
 rcases h a ha with h | ⟨p,h,hp⟩
 ·exact .inl Aa
 ·exact .inr ⟨p,h,by omega⟩
structure OkGr (M:Seat):Prop where
 t:OkGt M
variable {M:Seat}
def Gs.mE (G:Gs) (a:Int) (df:Bool) (v:Dg) (pl:Int) (bd t:BitVec 64):Option Int :=
 if a < 0 ∨ (G.n:Int)≤a then some 4
 else if (G.c a.toNat).rs=true then some 43
 else Zs G a.toNat df v pl bd t (Ia (G.c a.toNat).pos) (Wt (G.c a.toNat).pos)
def Gs.mT (G:Gs) (a:Int) (df:Bool) (v:Dg) (pl:Int) (bd t:BitVec 64):Gs :=
 G.mv (IE G a.toNat df v pl t (Ia (G.c a.toNat).pos) (Wt (G.c a.toNat).pos)) pl.toNat bd
theorem Gs.mE_in {G:Gs} {a:Int} {df:Bool} {v:Dg} {pl:Int} {bd t:BitVec 64} (h:G.mE a df v pl bd t=none):∃ p:Nat,a=p∧p < G.n∧(G.c p).rs=false∧Zs G p df v pl bd t (Ia (G.c p).pos) (Wt (G.c p).pos)=none:=by
 unfold Gs.mE at h
 by_cases h1:a < 0 ∨ (G.n:Int)≤a
 ·rw [if_pos h1] at h;cases h
 rw [if_neg h1] at h
 obtain ⟨p,rfl⟩:∃ p:Nat,a=p:=⟨a.toNat,by omega⟩
 rw [Int.toNat_natCast] at h
 cases hrs:(G.c p).rs with
 | true=>rw [if_pos hrs] at h;cases h
 | false=>rw [if_neg (by rw [hrs];simp)] at h;exact ⟨p,rfl,by omega,hrs,h⟩
theorem HF (ok:OkGr M) (G:Gs) (w:G.wf) (a:Int) (df:Bool) (v:Dg) (pl:Int) (bd t:BitVec 64) (he:G.mE a df v pl bd t=none) :
 Ag M 110 [.ptr 0 [],.int .i64 a,.bool df,dg v,.int .i64 pl,W bd,W t] G.H 4 (Q3 (Ah (.int .i64 (G.n:Int)) .nili) ((G.mT a df v pl bd t).H2) 6):=by
 obtain ⟨p,rfl,hp,hrs,he⟩:=Gs.mE_in he
 have hD:=w.hD
 have hn:=w.hn
 obtain ⟨k,i,hk,hi,hpos⟩:=w.pls p hp
 have hM:=OE ok.t.s.v G p df v pl bd t k i Aa w.hr hp Aa hi hpos (Hk w.prs hp) (by rw [hpos,Cr Aa hi,Ej Aa hi] at he;exact he)
 have hF:=FT ok.t.s.v.g G.D G.l G.g G.s G.n G.c p hp hrs
 have hA:=FB ok.t.s.v.g p
 have hT:G.mT p df v pl bd t=G.mv (IE G p df v pl t k i) pl.toNat bd:=by rw [Gs.mT,Int.toNat_natCast,hpos,Cr Aa hi,Ej Aa hi]
 rw [hT]
 clear w he hT
 unfold Gs.mv IE clN at *
 simp only [Gs.H2,Sw,Cl.v,Ac,hrs] at hM ⊢
 generalize Ks k i df=q at *
 generalize YI (CQ G.c (G.c p) + t - (G.c p).at') (G.l - G.g)=u at *
 obtain ⟨D,l,g,s,n,c,b,ii,o,kk,vv,gv⟩:=G
 dsimp only at *
 simp only [Gs.H,Ai,Al,Ac] at hM
 refine Ab ok.t.s.v.g.n.k110 rfl fun x hx=>?_
 refine es 2000 ?_;(simp only [P9,Oz,Gs.H,Ai,Al,Ac,Ap,Aq,A7,A4,Cl.v,LZ,seval])
 have zz:=Db @Ai.eq_1 @Al.eq_1 @Ac.eq_1 @Ap.eq_1 @Cl.v.eq_1 @dg.eq_1;refine Bw [0,1,2] [0,1] (hF) ?_
 (simp only [AH,Ai,Al,Ac,Ap,Cl.v,hrs,seval])
 have zz:=SN @Ai.eq_1 @Al.eq_1 @Ac.eq_1 @Ap.eq_1 @Aq.eq_1 @A7.eq_1 @A4.eq_1 @Cl.v.eq_1 @dg.eq_1;refine Bw [0,1,2,3] [0,1,2,3] (hM) ?_
 (simp only [AH,Ai,Al,Ac,Ap,Aq,A7,A4,Cl.v,seval])
 refine Ak (hA) ?_
 (simp only [AH,seval])
 refine Ar.mk hx [0,1,2,3,388,389] [] (Ah (.int .i64 n) .nili) _ 6 Am (by (simp only [CU,seval])) (by simp only [LV,Ah,LY,seval]) ?_ ⟨rfl,rfl,rfl⟩
 simp only [Ai,Al,Ac,Ap,Cl.v,Aq,A7,A4,dg,LY,seval]
 (repeat' apply And.intro)
 all_goals
  intro j hj
  by_cases h:j < n
  ·simp only [h,if_true,LY,seval]
  ·simp only [h,if_false,LY,seval]
def Gs.tT (G:Gs) (a:Int) (pl:Int):Gs:={ G with c:=fun j=>if j=a.toNat then { G.c a.toNat with st:=true,by':=pl } else G.c j }
structure Gs.bd (G:Gs):Prop where
 bond:∀ j,j < G.n→(G.c j).bond=j∧G.gv j=(G.c j).rs
 by':∀ j,j < G.n→∃ p:Nat,p < 8∧(G.c j).by'=p
 pl:∀ j,j < G.n→∃ p:Nat,p < 8∧(G.c j).pl=p
theorem BW (ok:OkGr M) (d:Int) (l g:BitVec 64) (s:Dg) (n:Nat) (c:Nat→Cl) (a:Nat) (ha:a < n) :
 Ag M 111 [.ptr 0 [],.int .i64 a] [(0,Ai d l g s (.ptr 2 []) (.sl 1 [] 0 n 42)),(1,Ap n c)] 3 (Q3 (Ah (c a).v .nili) [(0,Ai d l g s (.ptr 2 []) (.sl 1 [] 0 n 42)),(1,Ap n c)] 3):=by
 have d0:((a:Int) < 0)=False:=eq_false Aa
 have d1:((n:Int)≤(a:Int))=False:=eq_false Aa
 have d2:((a:Int) < (n:Int))=True:=eq_true Aa
 have d3:(0≤(a:Int))=True:=eq_true Aa
 refine Ab ok.t.s.v.g.n.k111 rfl fun x hx=>?_
 refine es 2000 ?_;(simp only [V3,U9,Ai,Al,Ac,Ap,Cl.v,d0,d1,d2,d3,LZ,seval])
 repeat refine sd ?_
 have zz:=Ka @Ah.eq_1 @dg.eq_1 @Cl.v.eq_1 @Ap.eq_1;exact Bf hx [0,1,2] ⟨rfl,rfl,rfl⟩
theorem De (ok:OkGr M) (d:Int) (l g:BitVec 64) (s:Dg) (n:Nat) :
 Ag M 117 [.ptr 0 []] [(0,Ai d l g s (.ptr 2 []) (.sl 1 [] 0 n 42))] 3 (Q3 (.int .i64 n) [(0,Ai d l g s (.ptr 2 []) (.sl 1 [] 0 n 42))] 3):=by
 refine Ab ok.t.s.v.g.n.k117 rfl fun x hx=>?_
 refine es 2000 ?_;(simp only [Adn,Acd,Ai,Al,Ac,LZ,seval])
 have zz:=@dg.eq_1;exact Bf hx [0,1,2] ⟨rfl,rfl,rfl⟩
theorem EU (ok:OkGr M) (d:Int) (l g:BitVec 64) (s:Dg) (n:Nat) :
 Ag M 119 [.ptr 0 []] [(0,Ai d l g s (.ptr 2 []) (.sl 1 [] 0 n 42))] 3 (Q3 (Al d l g s) [(0,Ai d l g s (.ptr 2 []) (.sl 1 [] 0 n 42))] 3):=by
 refine Ab ok.t.s.v.g.n.k119 rfl fun x hx=>?_
 refine es 2000 ?_;(simp only [Ag1,Afw,Ai,Al,Ac,LZ,seval])
 have zz:=C4 @dg.eq_1 @Al.eq_1 @Ac.eq_1;exact Bf hx [0,1,2] ⟨rfl,rfl,rfl⟩
structure Gs.ok (G:Gs):Prop where
 w:G.wf
 b:G.bd
 n0:0 < G.n
structure Op where
 kd:Int
 cl:Int
 df:Bool
 vl:Int
 pl:Int
 off:BitVec 64
 tn:BitVec 64
 wt:BitVec 64
instance:Inhabited Op:=⟨⟨0,0,false,0,0,0,0,0⟩⟩
def Op.v (o:Op):V:=.st 8 (.fcons 0 (.int .i64 o.kd) (.fcons 1 (.int .i64 o.cl) (.fcons 2 (.bool o.df) (.fcons 3 (.int .i64 o.vl) (.fcons 4 (.int .i64 o.pl) (.fcons 5 (W o.off) (.fcons 6 (W o.tn) (.fcons 7 (W o.wt) .fnil))))))))
def clF (v:Dg) (p:Int) (t:BitVec 64):Cl:=⟨-1,1#64,v,p,0,0#64,t,false,false,false,p⟩
def Gs.new (D:Nat) (l g:BitVec 64) (s v:Dg) (p:Nat) (t:BitVec 64) (b:Nat→BitVec 64) (i o k:BitVec 64):Gs:=⟨D,l,g,s,1,fun _=>clF v p t,fun j=>if j=p then b p - 1#64 else b j,i,o,k + 1#64,fun _=>1#64,fun _=>false⟩
theorem O4 {M:Seat} (ok:OkMv M) (D:Nat) (l g:BitVec 64) (s v:Dg) (p:Nat) (t:BitVec 64) (b:Nat→BitVec 64) (i o k:BitVec 64) (hD:1≤D∧D≤20) (hr:Oa l g) (hp:p < 8) (ht:¬ 1099511627776#64 < t) (hb:¬ b p < 1#64) :
 Ag M 112 [Al D l g s,.ptr 0 [],.int .i64 p,dg v,W t] [(0,Aq b i o .nils k)] 1 (Q3 (Ah (.ptr 2 []) .nili) [(0,Aq (fun j=>if j=p then b p - 1#64 else b j) i o (.sl 1 [] 0 1 2) (k + 1#64)),(1,A7 1 (fun _=>1#64) (fun _=>false)),(2,Ai D l g s (.ptr 0 []) (.sl 3 [] 0 1 42)),(3,Ap 1 fun _=>clF v p t)] 4):=by
 have hB:=Dh ok.g.n 0
 rw [show (if (0:Int) < 0 then 0#64 else BitVec.ofInt 64 0 + 1#64)=1#64 from rfl] at hB
 have hL:=J0 ok.g.l b i o k p hp 1#64 hb
 have hC:=Fc ok l g hr
 have d0:((D:Int) < 1)=False:=eq_false Aa
 have d1:((20:Int) < (D:Int))=False:=eq_false Aa
 refine Ab ok.g.n.k112 rfl fun x hx=>?_
 refine es 2000 ?_;(simp only [ZM,Acm,Al,Ac,d0,d1,LZ,seval])
 have zz:=@Ac.eq_1;refine Ce (hC) ?_
 (simp only [ht,LZ,seval])
 refine Ak (hB) ?_
 (simp only [LZ,seval])
 have zz:=Bb @Aq.eq_1 @A4.eq_1;refine SM [0] (hL) ?_
 (simp only [AH,Aq,A4,seval])
 refine Ar.mk hx [0,465,817,785] [] (Ah (.ptr 2 []) .nili) _ 4 Am (by (simp only [CU,seval])) (by simp only [LV,Ah,LY,seval]) ?_ ⟨rfl,rfl,rfl⟩
 simp only [Aq,A7,A4,Ap,Ai,Al,Ac,clF,Cl.v,dg,LY,seval,implies_true]
 intro j hj
 obtain rfl:j=0:=Aa
 simp only [if_true,LY,seval,implies_true]
structure Ga where
 dp:Int
 pl:Int
 rt:Int
 lm:BitVec 64
 gr:BitVec 64
 rc:BitVec 64
 nw:BitVec 64
instance:Inhabited Ga:=⟨⟨0,0,0,0,0,0,0⟩⟩
def Ga.v (a:Ga):V:=.st 7 (.fcons 0 (.int .i64 a.dp) (.fcons 1 (.int .i64 a.pl) (.fcons 2 (.int .i64 a.rt) (.fcons 3 (W a.lm) (.fcons 4 (W a.gr) (.fcons 5 (W a.rc) (.fcons 6 (W a.nw) .fnil)))))))
theorem FH (l g:BitVec 64) (hr:Oa l g) (D:Nat) (hD:D≤20) (s v:Dg) (p:Nat) (hp:p < 8) (t:BitVec 64) (b:Nat→BitVec 64) (i o k:BitVec 64):(Gs.new D l g s v p t b i o k).ok:=by
 refine ⟨⟨hD,(by show 1≤64;decide),hr,fun j hj=>?_,fun j hj=>?_⟩,⟨fun j hj=>?_,fun j hj=>?_,fun j hj=>?_⟩,(by show 0 < 1;decide)⟩
 all_goals
  have hj:j < 1:=hj
  obtain rfl:j=0:=Aa
 ·exact ⟨0,0,Nat.zero_le _,by decide,rfl⟩
 ·exact .inl rfl
 ·exact ⟨rfl,rfl⟩
 ·exact ⟨p,hp,rfl⟩
 ·exact ⟨p,hp,rfl⟩
def d1 (a:BitVec 8):Dg:=Dg.mk' fun j=>if j=0 then a else 0#8
def Awf:LC:=(sr [A1 6 (.mv (.c (.bool false))),mn 7] (sr [mt 13 0,mt 14 1,kl 15 254 [(.t 13),(.t 14)],mt 12 15,ee 16 12 0,ee 17 12 1,mt 8 16,mt 9 17] (.seq (sr [mt 18 9,A1 19 (.eq true true (.iface [74]) (.t 18) (.c .nili))] (.cond (.t 19) (sr [mt 20 9,A1 6 (.mv (.c (.bool false))),mt 7 20] .ret) .skip)) (.seq (sr [mt 22 0,mt 23 2,kl 24 111 [(.t 22),(.t 23)],mt 21 24,ee 25 21 0,ee 26 21 1,A1 10 (.alloc (.st (.cons (.int .i64) (.cons (.int .u64) (.cons (.ar 32 (.int .u8)) (.cons (.int .i64) (.cons (.int .i64) (.cons (.st (.cons (.int .u64) (.cons (.int .u64) .nil))) (.cons .bool (.cons .bool (.cons .bool (.cons (.int .i64) .nil)))))))))))),sb 42 10 25,mt 11 26] (sr [mt 27 11,A1 28 (.eq true true (.iface [74]) (.t 27) (.c .nili))] (.cond (.t 28) (sr [mt 29 11,A1 6 (.mv (.c (.bool false))),mt 7 29] .ret) .skip))) (sr [mt 30 8,nc 31 30,fa 32 3 31,lb 33 1 32,mt 34 2,ia 35 1 33 34,lb 36 1 35,mt 6 36,mn 7] .ret)))))
def Awg:LF:=⟨Awf,3,0,37,[.tmp 6,.tmp 7]⟩
def Avu:LC:=(sr [A1 4 (.mv (.c .nils)),mn 5] (sr [mt 19 0,mt 20 1,kl 21 254 [(.t 19),(.t 20)],mt 18 21,ee 22 18 0,ee 23 18 1,mt 6 22,mt 7 23] (.seq (sr [mt 24 7,A1 25 (.eq true true (.iface [74]) (.t 24) (.c .nili))] (.cond (.t 25) (sr [mt 26 7,A1 4 (.mv (.c .nils)),mt 5 26] .ret) .skip)) (sr [A1 8 (.mv (.c .nils))] (.seq (sr [mt 27 6,nc 28 27,fa 29 2 28,lb 30 1 29,
  lN 31 0 30,
  mI 32 0] (.block 0 (.loop (sr [ak 33 .lss 32 31] (.seq (Dd 33 0) (.seq (.block 1 (sr [mt 34 32,ia 35 42 30 32,la 36 42 35,A1 10 (.alloc (.st (.cons (.int .i64) (.cons (.int .u64) (.cons (.ar 32 (.int .u8)) (.cons (.int .i64) (.cons (.int .i64) (.cons (.st (.cons (.int .u64) (.cons (.int .u64) .nil))) (.cons .bool (.cons .bool (.cons .bool (.cons (.int .i64) .nil)))))))))))),mt 9 34,sb 42 10 36] (sr [fa 38 1 10,lb 39 1 38,kl 40 130 [(.t 39)],mt 37 40,ee 41 37 0,ee 42 37 1,ee 43 37 2,mt 11 41,mt 12 42,mt 13 43] (.seq (sr [mt 44 11,aI 45 .rem 44 2,mt 46 6,nc 47 46,fa 48 4 47,lb 49 1 48,ak 50 .eql 45 49,mt 51 50,A2 52 51 false (.fadr 39 (.t 10)),A2 53 51 false (.load false 1 (.t 52)),
  BV 54 51 53,mt 55 54,mg 56 55 false 6,A2 57 55 false (.fadr 0 (.t 10)),A2 58 55 false (.load false 1 (.t 57)),⟨(some 59),.call 255 [(.t 56),(.t 58)],(some (55,false))⟩,A2 60 55 false (.un .not (.t 59)),
  BV 61 55 60] (.cond (.t 61) (.exit 1) .skip)) (.seq (.regd [⟨0,0,mt 62 9⟩,⟨1,0,mt 63 11⟩,⟨2,0,mt 64 1⟩,⟨3,4,nc 65 64⟩,⟨4,12,fa 66 1 65⟩,⟨5,28,lb 67 1 66⟩,⟨6,62,ak 68 .eql 63 67⟩,⟨7,0,mt 69 6⟩,⟨8,128,nc 70 69⟩,⟨9,384,fa 71 3 70⟩,⟨10,896,lb 72 1 71⟩,⟨11,0,mt 73 9⟩,⟨12,3968,ia 74 1 72 73⟩,⟨13,8064,lb 75 1 74⟩,⟨14,16383,A1 76 (.build (.st (.cons (.int .i64) (.cons .bool (.cons .bool (.cons (.ar 32 (.int .u8)) (.cons (.st (.cons (.ar 32 (.int .u8)) (.cons (.st (.cons (.ar 16 (.int .u64)) (.cons (.int .u64) (.cons .bool (.cons (.int .u64) .nil))))) (.cons .slice (.cons (.ar 64 (.int .u8)) .nil))))) .nil)))))) [(.f 0,1,(.t 62)),(.f 1,1,(.t 68)),(.f 2,1,(.t 75))])⟩,⟨15,0,A1 14 (.alloc (.st (.cons (.int .i64) (.cons .bool (.cons .bool (.cons (.ar 32 (.int .u8)) (.cons (.st (.cons (.ar 32 (.int .u8)) (.cons (.st (.cons (.ar 16 (.int .u64)) (.cons (.int .u64) (.cons .bool (.cons (.int .u64) .nil))))) (.cons .slice (.cons (.ar 64 (.int .u8)) .nil))))) .nil)))))))⟩,⟨16,65535,sb 151 14 76⟩]) (sr [mt 77 6,A1 78 (.mkfn 2000256 [(.t 77)]),mt 15 78] (.seq (sr [fa 79 1 14,lb 80 1 79] (.cond (.t 80) (.reg [mt 81 6,A1 82 (.mkfn 2000257 [(.t 81)]),mt 15 82]) .skip)) (sr [mt 84 15,la 85 42 10,⟨(some 86),.dyn (.t 84) [(.t 14),(.t 85)],none⟩,mt 83 86,ee 87 83 0,ee 88 83 1,mt 16 87,mt 17 88] (.seq (sr [mt 89 17,A1 90 (.eq true true (.iface [74]) (.t 89) (.c .nili))] (.cond (.t 90) (sr [mt 91 17,A1 4 (.mv (.c .nils)),mt 5 91] .ret) .skip)) (sr [mt 92 16] (.cond (.t 92) (.reg [mt 93 8,la 94 151 14,A1 95 (.bsl 151 1 (.st (.cons (.int .i64) (.cons .bool (.cons .bool (.cons (.ar 32 (.int .u8)) (.cons (.st (.cons (.ar 32 (.int .u8)) (.cons (.st (.cons (.ar 16 (.int .u64)) (.cons (.int .u64) (.cons .bool (.cons (.int .u64) .nil))))) (.cons .slice (.cons (.ar 64 (.int .u8)) .nil))))) .nil)))))) [(.i 151 0,151,(.t 94))]),
  aP 96 151 320 93 95,mt 8 96]) .skip))))))))))) (.reg [aI 97 .add 32 1,mt 32 97]))))))) (sr [mt 98 8,mt 4 98,mn 5] .ret))))))
def f124:LF:=⟨Avu,2,0,99,[.tmp 4,.tmp 5]⟩
def Axu:LC:=(sr [bX 5 1,mn 8] (.seq (sr [mt 16 0,A1 17 (.eq false true .ptr (.t 16) (.c .nilp))] (.cond (.t 17) (sr [A1 18 (.mkif 74 (cI 1)),mt 8 18] .ret) .skip)) (.seq (sr [fa 19 1 5,lb 20 1 19] (.cond (.t 20) (sr [mt 21 0,fa 22 0 5,lb 23 1 22,fa 24 2 5,lb 25 1 24,fa 26 35 5,la 27 116 26,mt 28 2,mt 29 3,kl 30 114 [(.t 21),(.t 23),(.t 25),(.t 27),(.t 28),(.t 29)],mt 8 30] .ret) .skip)) (sr [mt 32 0,fa 33 0 5,lb 34 1 33,kl 35 111 [(.t 32),(.t 34)],mt 31 35,ee 36 31 0,ee 37 31 1,A1 9 (.alloc (.st (.cons (.int .i64) (.cons (.int .u64) (.cons (.ar 32 (.int .u8)) (.cons (.int .i64) (.cons (.int .i64) (.cons (.st (.cons (.int .u64) (.cons (.int .u64) .nil))) (.cons .bool (.cons .bool (.cons .bool (.cons (.int .i64) .nil)))))))))))),sb 42 9 36,mt 10 37] (sr [fa 39 1 9,lb 40 1 39,kl 41 130 [(.t 40)],mt 38 41,ee 42 38 0,ee 43 38 1,ee 44 38 2,mt 11 42,mt 12 43,mt 13 44] (.seq (.regd [⟨8,0,mt 54 11⟩,⟨9,1,aI 55 .add 54 1⟩,⟨10,3,kl 56 120 [(.t 55)]⟩,⟨0,0,mt 46 0⟩,⟨1,0,fa 47 0 5⟩,⟨2,16,lb 48 1 47⟩,⟨3,0,fa 49 2 5⟩,⟨4,64,lb 50 1 49⟩,⟨5,0,fa 51 3 5⟩,⟨6,256,la 52 32 51⟩,⟨7,0,mt 53 2⟩,⟨11,0,mt 57 3⟩,⟨12,4095,kl 58 110 [(.t 46),(.t 48),(.t 50),(.t 52),(.t 53),(.t 56),(.t 57)]⟩,⟨13,8191,mt 45 58⟩,⟨14,16383,ee 59 45 0⟩,⟨15,16383,ee 60 45 1⟩,⟨16,32767,mt 14 59⟩,⟨17,131071,mt 15 60⟩]) (sr [mt 61 15,mt 8 61] .ret)))))))
def Axt:LF:=⟨Axu,4,0,62,[.tmp 8]⟩
def Avl:LC:=(sr [A1 4 (.mv (.c .nilp)),mn 5] (.seq (.block 0 (sr [mt 14 0,A1 15 (.eq false true .ptr (.t 14) (.c .nilp)),mt 16 15,mg 17 16 false 1,A2 18 16 false (.eq false true .ptr (.t 17) (.c .nilp)),
  BV 19 16 18,mt 13 19] (.cond (.t 13) (sr [A1 20 (.mkif 74 (cI 1)),A1 4 (.mv (.c .nilp)),mt 5 20] .ret) (.seq (.regd [⟨0,0,mt 22 0⟩,⟨1,1,kl 23 119 [(.t 22)]⟩,⟨2,3,A1 24 (.fld 0 1 false (.t 23))⟩,⟨3,0,mt 25 1⟩,⟨4,8,nc 26 25⟩,⟨5,24,fa 27 1 26⟩,⟨6,56,lb 28 1 27⟩,⟨7,127,ak 29 .neq 24 28⟩,⟨8,255,mt 21 29⟩]) (.cond (.t 21) (sr [A1 30 (.mkif 74 (cI 3)),A1 4 (.mv (.c .nilp)),mt 5 30] .ret) .skip))))) (sr [mt 31 0,mt 32 1,A1 33 (.build (.st (.cons .ptr (.cons .ptr (.cons .slice (.cons .slice (.cons (.int .i64) .nil)))))) [(.f 0,1,(.t 31)),(.f 1,1,(.t 32))]),
  bX 34 33,mt 6 34] (.seq (sr [mt 35 0,kl 36 117 [(.t 35)],
  mI 37 0] (.block 1 (.loop (sr [ak 38 .lss 37 36] (.seq (Dd 38 1) (.seq (.block 2 (sr [mt 39 37,mt 7 39] (sr [mt 41 0,mt 42 7,kl 43 111 [(.t 41),(.t 42)],mt 40 43,ee 44 40 0,ee 45 40 1,A1 8 (.alloc (.st (.cons (.int .i64) (.cons (.int .u64) (.cons (.ar 32 (.int .u8)) (.cons (.int .i64) (.cons (.int .i64) (.cons (.st (.cons (.int .u64) (.cons (.int .u64) .nil))) (.cons .bool (.cons .bool (.cons .bool (.cons (.int .i64) .nil)))))))))))),sb 42 8 44,mt 9 45] (.seq (sr [mt 46 9,A1 47 (.eq true true (.iface [74]) (.t 46) (.c .nili))] (.cond (.t 47) (sr [mt 48 9,A1 4 (.mv (.c .nilp)),mt 5 48] .ret) .skip)) (.seq (.regd [⟨0,0,fa 50 1 8⟩,⟨1,1,lb 51 1 50⟩,⟨2,0,mt 52 1⟩,⟨3,4,nc 53 52⟩,⟨4,12,fa 54 1 53⟩,⟨5,28,lb 55 1 54⟩,⟨6,63,kl 56 359 [(.t 51),(.t 55)]⟩,⟨7,127,mt 49 56⟩,⟨8,255,ee 57 49 0⟩,⟨9,255,ee 58 49 1⟩,⟨10,511,mt 10 57⟩,⟨11,2047,mt 11 58⟩]) (sr [mt 60 1,mt 61 10,kl 62 154 [(.t 60),(.t 61)],mt 59 62,ee 63 59 0,ee 64 59 1,
  aB 12 32,sb 32 12 63,mt 9 64] (.seq (sr [mt 65 9,A1 66 (.eq true true (.iface [74]) (.t 65) (.c .nili))] (.cond (.t 66) (sr [mt 67 9,A1 4 (.mv (.c .nilp)),mt 5 67] .ret) .skip))
 (.regd [⟨2,0,mt 70 6⟩,⟨3,1,nc 71 70⟩,⟨4,3,fa 72 2 71⟩,⟨5,7,lb 73 1 72⟩,⟨6,0,la 74 42 8⟩,⟨7,16,A1 75 (.bsl 42 1 (.st (.cons (.int .i64) (.cons (.int .u64) (.cons (.ar 32 (.int .u8)) (.cons (.int .i64) (.cons (.int .i64) (.cons (.st (.cons (.int .u64) (.cons (.int .u64) .nil))) (.cons .bool (.cons .bool (.cons .bool (.cons (.int .i64) .nil))))))))))) [(.i 42 0,42,(.t 74))])⟩,⟨8,63,aP 76 42 96 73 75⟩,⟨9,0,mt 77 6⟩,⟨10,128,nc 78 77⟩,⟨11,384,fa 79 3 78⟩,⟨12,896,lb 80 1 79⟩,⟨13,0,la 81 32 12⟩,⟨14,0,fa 82 2 8⟩,⟨15,4096,la 83 32 82⟩,⟨16,14336,A1 84 (.eq false false (.ar 32 1 false .int) (.t 81) (.t 83))⟩,⟨17,30720,A1 85 (.bsl 1 1 .bool [(.i 1 0,1,(.t 84))])⟩,⟨18,65535,aP 86 1 1 80 85⟩,⟨0,0,mt 68 6⟩,⟨19,262143,nc 87 68⟩,⟨20,524287,fa 88 2 87⟩,⟨21,1048575,sb 1 88 76⟩,⟨1,0,mt 69 6⟩,⟨22,4194303,nc 89 69⟩,⟨23,8388607,fa 90 3 89⟩,⟨24,16777215,sb 1 90 86⟩])))))))) (.reg [aI 91 .add 37 1,mt 37 91]))))))) (.seq (sr [mt 92 6,nc 93 92,fa 94 3 93,lb 95 1 94,
  iJ 96 1 95 0,lb 97 1 96,A1 98 (.un .not (.t 97))] (.cond (.t 98) (.reg [mt 99 6,nc 100 99,fa 101 4 100,A0 (.store 1 (.t 101) (cI 1))]) .skip)) (sr [mt 102 6,mt 4 102,mn 5] .ret))))))
def Avn:LF:=⟨Avl,2,0,103,[.tmp 4,.tmp 5]⟩
def Axd:LC:=(sr [A1 4 (.mv (.c (.bool false)))] (.seq (.block 0 (.loop (.seq (sr [mt 8 1,aI 9 .geq 8 0]
 (Dd 9 0)) (.seq (.block 1 (sr [mt 25 0,nc 26 25,fa 27 2 26,lb 28 1 27,mt 29 1,ia 30 42 28 29,la 31 42 30,A1 5 (.alloc (.st (.cons (.int .i64) (.cons (.int .u64) (.cons (.ar 32 (.int .u8)) (.cons (.int .i64) (.cons (.int .i64) (.cons (.st (.cons (.int .u64) (.cons (.int .u64) .nil))) (.cons .bool (.cons .bool (.cons .bool (.cons (.int .i64) .nil)))))))))))),sb 42 5 31] (.seq (sr [mt 32 0,nc 33 32,fa 34 3 33,lb 35 1 34,mt 36 1,ia 37 1 35 36,lb 38 1 37,A1 39 (.un .not (.t 38))] (.cond (.t 39) (sr [A1 4 (.mv (.c (.bool false)))] .ret) .skip)) (.seq (sr [fa 40 0 5,lb 41 1 40,aI 42 .lss 41 0] (.cond (.t 42) (sr [A1 4 (.mv (.c (.bool true)))] .ret) .skip)) (.seq (.regd [⟨0,0,mt 44 0⟩,⟨1,1,nc 45 44⟩,⟨2,3,fa 46 2 45⟩,⟨3,7,lb 47 1 46⟩,⟨4,0,fa 48 0 5⟩,⟨5,16,lb 49 1 48⟩,⟨6,63,ia 50 42 47 49⟩,⟨7,127,fa 51 1 50⟩,⟨8,255,lb 52 1 51⟩,⟨9,511,kl 53 131 [(.t 52)]⟩,⟨10,1023,mt 43 53⟩,⟨11,2047,ee 54 43 0⟩,⟨12,2047,ee 55 43 1⟩,⟨13,4095,mt 6 54⟩,⟨14,16383,mt 7 55⟩]) (.seq (.seq (.regd [⟨0,0,mt 56 0⟩,⟨1,1,nc 57 56⟩,⟨2,3,fa 58 3 57⟩,⟨3,7,lb 59 1 58⟩,⟨4,0,fa 60 0 5⟩,⟨5,16,lb 61 1 60⟩,⟨6,63,ia 62 1 59 61⟩,⟨7,127,lb 63 1 62⟩]) (.cond (.t 63) (.regd [⟨0,0,mt 65 0⟩,⟨1,1,nc 66 65⟩,⟨2,3,fa 67 2 66⟩,⟨3,7,lb 68 1 67⟩,⟨4,0,fa 69 0 5⟩,⟨5,16,lb 70 1 69⟩,⟨6,63,ia 71 42 68 70⟩,⟨7,127,fa 72 1 71⟩,⟨8,255,lb 73 1 72⟩,⟨9,511,kl 74 132 [(.t 73)]⟩,⟨10,1023,mt 64 74⟩,⟨11,2047,ee 75 64 0⟩,⟨12,2047,ee 76 64 1⟩,⟨13,4095,mt 6 75⟩]) .skip)) (sr [fa 77 1 5,lb 78 1 77,mt 79 6,ak 80 .neq 78 79] (.cond (.t 80) (sr [A1 4 (.mv (.c (.bool false)))] .ret) .skip))))))))
 (.regd [⟨0,0,mt 10 0⟩,⟨1,1,nc 11 10⟩,⟨2,3,fa 12 2 11⟩,⟨3,7,lb 13 1 12⟩,⟨4,0,mt 14 0⟩,⟨5,16,nc 15 14⟩,⟨6,48,fa 16 2 15⟩,⟨7,112,lb 17 1 16⟩,⟨8,0,mt 18 1⟩,⟨9,496,ia 19 42 17 18⟩,⟨10,1008,fa 20 0 19⟩,⟨11,2032,lb 21 1 20⟩,⟨12,4095,ia 22 42 13 21⟩,⟨13,8191,fa 23 0 22⟩,⟨14,16383,lb 24 1 23⟩,⟨15,32767,mt 1 24⟩]))))) (sr [A1 4 (.mv (.c (.bool true)))] .ret)))
def Axs:LF:=⟨Axd,2,0,81,[.tmp 4]⟩
def Axf:LC:=(sr [bX 5 2,A1 6 (.mv (.c (.bool false))),mn 7] (.seq (sr [fa 10 38 5,lb 11 1 10] (.cond (.t 11) (sr [A1 6 (.mv (.c (.bool false))),mn 7] .ret) .skip)) (.seq (.regd [⟨0,0,fa 13 1 5⟩,⟨1,1,lb 14 1 13⟩,⟨2,0,mt 15 0⟩,⟨3,4,nc 16 15⟩,⟨4,12,fa 17 1 16⟩,⟨5,28,lb 18 1 17⟩,⟨6,60,nc 19 18⟩,⟨7,124,fa 20 1 19⟩,⟨8,252,lb 21 1 20⟩,⟨9,511,kl 22 359 [(.t 14),(.t 21)]⟩,⟨10,1023,mt 12 22⟩,⟨11,2047,ee 23 12 0⟩,⟨12,2047,ee 24 12 1⟩,⟨13,4095,mt 8 23⟩,⟨14,16383,mt 9 24⟩]) (.seq (sr [mt 25 9,A1 26 (.eq true true (.iface [74]) (.t 25) (.c .nili))] (.cond (.t 26) (sr [mt 27 9,A1 6 (.mv (.c (.bool false))),mt 7 27] .ret) .skip)) (.seq (sr [mt 28 1,nc 29 28,fa 30 2 29,lb 31 1 30] (.cond (.t 31) (.reg [mt 32 8,
  aU 33 .add 32 1,mt 8 33]) .skip)) (sr [mt 35 1,mt 36 0,nc 37 36,fa 38 1 37,lb 39 1 38,mt 40 8,kl 41 155 [(.t 39),(.t 40)],mt 34 41,ee 42 34 0,ee 43 34 1,nc 44 35,fa 45 35 44,sb 116 45 42,mt 9 43] (sr [mt 46 9,A1 6 (.mv (.c (.bool true))),mt 7 46] .ret)))))))
def f257:LF:=⟨Axf,3,0,47,[.tmp 6,.tmp 7]⟩
end Mv
