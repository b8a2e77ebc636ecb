/- A part. -/
import Derived.Test.YtlfkjfonpacelaaGreatDoorFO
set_option linter.all false
set_option maxRecDepth 20000
set_option maxHeartbeats 16000000
namespace Mv
open Go
structure Gs where
 D:Nat
 l:BitVec 64
 g:BitVec 64
 s:Dg
 n:Nat
 c:Nat→Cl
 b:Nat→BitVec 64
 i:BitVec 64
 o:BitVec 64
 k:BitVec 64
 v:Nat→BitVec 64
 gv:Nat→Bool
def FC (n:Nat) (v:Nat→BitVec 64) (g:Nat→Bool):V:=.ar 2 n fun j=>Eo (v j) (g j)
def Gs.H (G:Gs):Hp:=[(0,C4 G.D G.l G.g G.s (.ptr 2 []) (.sl 1 [] 0 G.n 42)),(1,Dj G.n G.c),(2,BM G.b G.i G.o (.sl 3 [] 0 G.n 2) G.k),(3,FC G.n G.v G.gv)]
def clX (a:Nat) (v:Dg) (pl:Int):Cl:=⟨a,0#64,v,pl,0,0#64,0#64,false,false,false,pl⟩
def clP (a:Nat) (v:Dg) (pl:Int) (q:BitVec 64):Cl:=⟨a,q,v,pl,0,0#64,0#64,false,false,false,pl⟩
def clN (a:Nat) (v:Dg) (pl:Int) (q:BitVec 64) (n:Nat) (u t:BitVec 64):Cl:=⟨a,q,v,pl,n,u,t,false,false,false,pl⟩
def anP (k i:Nat) (df:Bool):BitVec 64:=if df=true then pw (k + 1) (2 * i + 2) else pw (k + 1) (2 * i)
instance (u a b n:BitVec 64):Decidable (spE u a b n):=by unfold spE;infer_instance
def mvE (G:Gs) (a:Nat) (df:Bool) (v:Dg) (pl:Int) (bd t:BitVec 64) (k i:Nat):Option Int :=
 if G.D≤k then some 45
 else if df=true∧i + 1=2 ^ k then some 45
 else if ¬ bd=BitVec.ofNat 64 (k + 2) then some 40
 else if ∃ j,j < G.n∧Xl (clX a v pl) (anP k i df) (G.c j) then some 41
 else if spE (G.c a).us (G.c a).at' (Vz G.c (G.c a)) t then some 2
 else if G.l≤Vz G.c (G.c a) + t - (G.c a).at' then some 42
 else if 64≤G.n then some 5
 else if pl < 0 ∨ 8≤pl then some 2
 else if G.b pl.toNat < bd then some 21
 else none
theorem Ab6 {M:Seat} (ok:OkGm M) (k:Nat) (hk:k≤20):Af M 120 [.int .i64 ((k + 1:Nat):Int)] [] 0 (Q3 (W (BitVec.ofNat 64 (k + 2))) [] 0):=by
 have hB:=Mq ok.n ((k + 1:Nat):Int)
 rw [if_neg Aa] at hB
 have:BitVec.ofInt 64 ((k + 1:Nat):Int) + 1#64=BitVec.ofNat 64 (k + 2):=by
  rw [BitVec.ofInt_natCast,show k + 2=k + 1 + 1 by omega,BitVec.ofNat_add (k + 1)]
 rw [this] at hB
 exact hB
def Gs.mv (G:Gs) (x:Cl) (p:Nat) (bd:BitVec 64):Gs:=⟨G.D,G.l,G.g,G.s,G.n + 1,fun j=>if j < G.n then G.c j else x,fun j=>if j=p then G.b p - bd else G.b j,G.i,G.o,G.k + bd,fun j=>if j < G.n then G.v j else bd,fun j=>if j < G.n then G.gv j else false⟩
def mvC (G:Gs) (a:Nat) (df:Bool) (v:Dg) (pl:Int) (t:BitVec 64) (k i:Nat):Cl:=clN a v pl (anP k i df) G.n (mnW (Vz G.c (G.c a) + t - (G.c a).at') (G.l - G.g)) t
def Gs.H2 (G:Gs):Hp:=[(0,C4 G.D G.l G.g G.s (.ptr 2 []) (.sl 4 [] 0 G.n 42)),(2,BM G.b G.i G.o (.sl 5 [] 0 G.n 2) G.k),(4,Dj G.n G.c),(5,FC G.n G.v G.gv)]
theorem Se {M:Seat} (ok:OkMv M) (G:Gs) (a:Nat) (df:Bool) (v:Dg) (pl:Int) (bd t:BitVec 64) (k i:Nat) (hn:G.n < 1000) (hr:Rck G.l G.g) (ha:a < G.n)
 (hk:k≤20) (hi:i < 2 ^ k) (hp:(G.c a).pos=pw k i) (hb:(G.c a).par < 0 ∨ ∃ p:Nat,(G.c a).par=p∧p < G.n) (he:mvE G a df v pl bd t k i=none) :
 Af M 247 [.ptr 0 [],(clX a v pl).v,(G.c a).v,.bool df,W bd,W t] G.H 4 (Q3 (Ah (.int .i64 (G.n:Int)) .nili) ((G.mv (mvC G a df v pl t k i) pl.toNat bd).H2) 6):=by
 obtain ⟨D,l,g,s,n,c,b,ii,o,kk,vv,gv⟩:=G
 unfold mvC
 dsimp only [Gs.mv] at *
 unfold mvE at he
 dsimp only at he
 have hF:=Nx ok.g D l g s n c (c a) hb
 have hB:=Ab6 ok.g k hk
 simp only [Dj] at hF
 by_cases h1:D≤k
 ·rw [if_pos h1] at he;cases he
 rw [if_neg h1] at he
 by_cases h2:df=true∧i + 1=2 ^ k
 ·rw [if_pos h2] at he;cases he
 rw [if_neg h2] at he
 have hP:Af M 350 [.ptr 0 [],(c a).v,.bool df] [(0,C4 D l g s (.ptr 2 []) (.sl 1 [] 0 n 42))] 3 (Q3 (CI (W (anP k i df)) (.int .i64 ((k + 1:Nat):Int)) .nili) [(0,C4 D l g s (.ptr 2 []) (.sl 1 [] 0 n 42))] 3):=by
  unfold anP
  cases df with
  | true=>exact Nm ok.g D l g s n (c a) k i hk (by have:=Nat.lt_of_le_of_ne hi (fun h=>h2 ⟨rfl,h⟩);omega) hp h1
  | false=>exact NU ok.g D l g s n (c a) k i hk hi hp h1
 generalize hq:anP k i df=q at *
 by_cases h3:bd=BitVec.ofNat 64 (k + 2)
 case neg=>rw [if_pos h3] at he;cases he
 rw [if_neg (fun h=>h h3)] at he
 have d3:(bd=BitVec.ofNat 64 (k + 2))=True:=eq_true h3
 by_cases h4:∃ j,j < n∧Xl (clX a v pl) q (c j)
 ·rw [if_pos h4] at he;cases he
 rw [if_neg h4] at he
 have hC:=Kj ok n hn c (clP a v pl q) q h4
 simp only [clP,Cl.v,AJ] at hC
 by_cases h5:spE (c a).us (c a).at' (Vz c (c a)) t
 ·rw [if_pos h5] at he;cases he
 rw [if_neg h5] at he
 by_cases h6:l≤Vz c (c a) + t - (c a).at'
 ·rw [if_pos h6] at he;cases he
 rw [if_neg h6] at he
 have hN:=Sq ok l g (c a).us (c a).at' (Vz c (c a)) t hr h5 h6
 simp only [AJ] at hN
 by_cases h7:64≤n
 ·rw [if_pos h7] at he;cases he
 rw [if_neg h7] at he
 have d7:((64:Int)≤(n:Int))=False:=eq_false Aa
 by_cases h8:pl < 0 ∨ 8≤pl
 ·rw [if_pos h8] at he;cases he
 rw [if_neg h8] at he
 by_cases h9:b pl.toNat < bd
 ·rw [if_pos h9] at he;cases he
 obtain ⟨p,rfl⟩:∃ p:Nat,pl=p:=⟨pl.toNat,by omega⟩
 rw [Int.toNat_natCast] at *
 have hL:=Rr ok.g.l b ii o kk p Aa bd h9 n hn (fun j=>Eo (vv j) (gv j)) (fun j=>⟨_,_,rfl⟩)
 generalize hu:mnW (Vz c (c a) + t - (c a).at') (l - g)=u at *
 have z1:IntKind.i64.wrap (((n + 1:Nat):Int) - 1)=(n:Int):=Bw
 have z2:IntKind.i64.wrap ((n:Int) + 1)=((n + 1:Nat):Int):=Bw
 refine Ab ok.k247 rfl fun x hx=>?_
 refine es 2000 ?_;(simp only [Any,Akv,Gs.H,C4,Dc,AJ,clX,Cl.v,Dj,BM,FC,Eo,LZ,seval])
 have zz:=N8 @C4.eq_1 @Dc.eq_1 @AJ.eq_1 @Cl.v.eq_1 @dg.eq_1;refine Df [0,1,2] [0] (hP) ?_
 (simp only [CI,C4,Dc,AJ,LZ,seval])
 refine Ai (hB) ?_
 (simp only [d3,LZ,seval])
 have zz:=@dg.eq_1;refine CV (hC) ?_
 (simp only [LZ,seval])
 have zz:=N8 @C4.eq_1 @Dc.eq_1 @AJ.eq_1 @Cl.v.eq_1 @dg.eq_1;refine Qw [0,1,2] [0,1] (hF) ?_
 (simp only [C4,Dc,AJ,Cl.v,LZ,seval])
 have zz:=@dg.eq_1;refine Ng (hN) ?_
 (simp only [BV,d7,seval])
 have zz:=Bc @BM.eq_1 @Eo.eq_1;refine Qw [2,3] [2,3] (hL) ?_
 (simp only [BV,BM,Eo,z1,z2,Nat.testBit,List.map_nil,List.map_cons,DX,seval])
 repeat refine sd ?_
 refine Ap.mk hx [0,1,2,3,1988,1572] [] (Ah (.int .i64 (n:Int)) .nili) (Gs.H2 ⟨D,l,g,s,n + 1,fun j=>if j < n then c j else clN a v p q n u t,fun j=>if j=p then b p - bd else b j,ii,o,kk + bd,fun j=>if j < n then vv j else bd,fun j=>if j < n then gv j else false⟩) 6 Aj (by (simp only [DS,seval])) (by simp only [LV,Ah,LY,seval]) ?_ ⟨rfl,rfl,rfl⟩
 simp only [Gs.H2,C4,Dc,AJ,Dj,Cl.v,clN,BM,FC,Eo,dg,LY,seval]
 (repeat' apply And.intro)
 all_goals
  intro j hj
  by_cases h:j < n
  ·simp only [h,if_true,V.ren,W,LY,seval]
  ·have h0:j - n=0:=Aa
   simp only [h,h0,C2,V.ren,W,LY,seval]
def Zb (p:BitVec 64):Nat:=CZ p - 1
def ixW (p:BitVec 64):Nat:=p.toNat - 2 ^ Zb p
def trW (D:Nat) (p:BitVec 64):BitVec 64:=BitVec.ofNat 64 (trI D (Zb p) (ixW p))
theorem Rc {k i:Nat} (hk:k≤24) (hi:i < 2 ^ k):Zb (pw k i)=k:=by rw [Zb,Pi hk hi];omega
theorem VO {k i:Nat} (hk:k≤24) (hi:i < 2 ^ k):ixW (pw k i)=i:=by rw [ixW,Rc hk hi,NE hk hi];omega
structure OkGs (M:Seat):Prop where
 v:OkMv M
 c:OkCl M
 le:OkLe M
 k359:Av M 359 TY=true
def abv (D:Nat) (c:Nat→Cl) (t:BitVec 64):Nat→Int→Option Nat
 | 0,_=>none
 | f + 1,a=>if a < 0 then none else if trW D (c a.toNat).pos=t then some a.toNat else abv D c t f (c a.toNat).par
def Pls (D n:Nat) (c:Nat→Cl):Prop:=∀ j,j < n→∃ k i,k≤D∧i < 2 ^ k∧(c j).pos=pw k i
def Prs (n:Nat) (c:Nat→Cl):Prop:=∀ j,j < n→(c j).par = -1 ∨ ∃ p:Nat,(c j).par=p∧p < j
def Gs.enA (G:Gs) (a:Nat):Dg :=
 if 0#64 < trW G.D (G.c a).pos then (match abv G.D G.c (trW G.D (G.c a).pos - 1#64) (a + 1) a with | some j=>(G.c j).val | none=>Dg.zero) else G.s
def Gs.enJ (G:Gs) (a:Nat):Option Nat:=abv G.D G.c (trW G.D (G.c a).pos + 1#64) (a + 1) a
structure OkGt (M:Seat):Prop where
 s:OkGs M
def Gs.stP (G:Gs) (a:Nat) (df:Bool) (pl:Int) (t:BitVec 64):Option Int :=
 if pl < 0 ∨ 8≤pl then some 2
 else if ¬ Zb (G.c a).pos=G.D then some 45
 else if df=true∧G.enJ a=none then some 45
 else if (G.c a).st=true then some 41
 else if spE (G.c a).us (G.c a).at' (Vz G.c (G.c a)) t then some 2
 else if G.l≤Vz G.c (G.c a) + t - (G.c a).at' then some 42
 else none
def Gs.sA (G:Gs) (a:Nat) (df:Bool):Dg:=if df=true then (G.c a).val else G.enA a
structure Gs.wf (G:Gs):Prop where
 hD:G.D≤20
 hn:G.n≤64
 hr:Rck G.l G.g
 pls:Pls G.D G.n G.c
 prs:Prs G.n G.c
theorem Ahp {n:Nat} {c:Nat→Cl} (h:Prs n c) {a:Nat} (ha:a < n):(c a).par < 0 ∨ ∃ p:Nat,(c a).par=p∧p < n:=by
 rcases h a ha with h | ⟨p,h,hp⟩
 ·exact .inl Aa
 ·exact .inr ⟨p,h,by omega⟩
structure OkGr (M:Seat):Prop where
 t:OkGt M
variable {M:Seat}
def Gs.mE (G:Gs) (a:Int) (df:Bool) (v:Dg) (pl:Int) (bd t:BitVec 64):Option Int :=
 if a < 0 ∨ (G.n:Int)≤a then some 4
 else if (G.c a.toNat).rs=true then some 43
 else mvE G a.toNat df v pl bd t (Zb (G.c a.toNat).pos) (ixW (G.c a.toNat).pos)
def Gs.mT (G:Gs) (a:Int) (df:Bool) (v:Dg) (pl:Int) (bd t:BitVec 64):Gs :=
 G.mv (mvC G a.toNat df v pl t (Zb (G.c a.toNat).pos) (ixW (G.c a.toNat).pos)) pl.toNat bd
theorem Gs.mE_in {G:Gs} {a:Int} {df:Bool} {v:Dg} {pl:Int} {bd t:BitVec 64} (h:G.mE a df v pl bd t=none):∃ p:Nat,a=p∧p < G.n∧(G.c p).rs=false∧mvE G p df v pl bd t (Zb (G.c p).pos) (ixW (G.c p).pos)=none:=by
 unfold Gs.mE at h
 by_cases h1:a < 0 ∨ (G.n:Int)≤a
 ·rw [if_pos h1] at h;cases h
 rw [if_neg h1] at h
 obtain ⟨p,rfl⟩:∃ p:Nat,a=p:=⟨a.toNat,by omega⟩
 rw [Int.toNat_natCast] at h
 cases hrs:(G.c p).rs with
 | true=>rw [if_pos hrs] at h;cases h
 | false=>rw [if_neg (by rw [hrs];simp)] at h;exact ⟨p,rfl,by omega,hrs,h⟩
theorem P9 (ok:OkGr M) (G:Gs) (w:G.wf) (a:Int) (df:Bool) (v:Dg) (pl:Int) (bd t:BitVec 64) (he:G.mE a df v pl bd t=none) :
 Af M 110 [.ptr 0 [],.int .i64 a,.bool df,dg v,.int .i64 pl,W bd,W t] G.H 4 (Q3 (Ah (.int .i64 (G.n:Int)) .nili) ((G.mT a df v pl bd t).H2) 6):=by
 obtain ⟨p,rfl,hp,hrs,he⟩:=Gs.mE_in he
 have hD:=w.hD
 have hn:=w.hn
 obtain ⟨k,i,hk,hi,hpos⟩:=w.pls p hp
 have hM:=Se ok.t.s.v G p df v pl bd t k i Aa w.hr hp Aa hi hpos (Ahp w.prs hp) (by rw [hpos,Rc Aa hi,VO Aa hi] at he;exact he)
 have hF:=QL ok.t.s.v.g G.D G.l G.g G.s G.n G.c p hp hrs
 have hA:=RA ok.t.s.v.g p
 have hT:G.mT p df v pl bd t=G.mv (mvC G p df v pl t k i) pl.toNat bd:=by rw [Gs.mT,Int.toNat_natCast,hpos,Rc Aa hi,VO Aa hi]
 rw [hT]
 clear w he hT
 unfold Gs.mv mvC clN at *
 simp only [Gs.H2,clX,Cl.v,AJ,hrs] at hM ⊢
 generalize anP k i df=q at *
 generalize mnW (Vz G.c (G.c p) + t - (G.c p).at') (G.l - G.g)=u at *
 obtain ⟨D,l,g,s,n,c,b,ii,o,kk,vv,gv⟩:=G
 dsimp only at *
 simp only [Gs.H,C4,Dc,AJ] at hM
 refine Ab ok.t.s.v.g.n.k110 rfl fun x hx=>?_
 refine es 2000 ?_;(simp only [Amy,Ao5,Gs.H,C4,Dc,AJ,Dj,BM,FC,Eo,Cl.v,LZ,seval])
 have zz:=YF @C4.eq_1 @Dc.eq_1 @AJ.eq_1 @Dj.eq_1 @Cl.v.eq_1 @dg.eq_1;refine Df [0,1,2] [0,1] (hF) ?_
 (simp only [BV,C4,Dc,AJ,Dj,Cl.v,hrs,seval])
 have zz:=aq9 @C4.eq_1 @Dc.eq_1 @AJ.eq_1 @Dj.eq_1 @BM.eq_1 @FC.eq_1 @Eo.eq_1 @Cl.v.eq_1 @dg.eq_1;refine Df [0,1,2,3] [0,1,2,3] (hM) ?_
 (simp only [BV,C4,Dc,AJ,Dj,BM,FC,Eo,Cl.v,seval])
 refine Ai (hA) ?_
 (simp only [BV,seval])
 refine Ap.mk hx [0,1,2,3,388,389] [] (Ah (.int .i64 n) .nili) _ 6 Aj (by (simp only [DS,seval])) (by simp only [LV,Ah,LY,seval]) ?_ ⟨rfl,rfl,rfl⟩
 simp only [C4,Dc,AJ,Dj,Cl.v,BM,FC,Eo,dg,LY,seval]
 (repeat' apply And.intro)
 all_goals
  intro j hj
  by_cases h:j < n
  ·simp only [h,if_true,LY,seval]
  ·simp only [h,if_false,LY,seval]
def Gs.tT (G:Gs) (a:Int) (pl:Int):Gs:={ G with c:=fun j=>if j=a.toNat then { G.c a.toNat with st:=true,by':=pl } else G.c j }
structure Gs.bd (G:Gs):Prop where
 bond:∀ j,j < G.n→(G.c j).bond=j∧G.gv j=(G.c j).rs
 by':∀ j,j < G.n→∃ p:Nat,p < 8∧(G.c j).by'=p
 pl:∀ j,j < G.n→∃ p:Nat,p < 8∧(G.c j).pl=p
theorem FQ (ok:OkGr M) (d:Int) (l g:BitVec 64) (s:Dg) (n:Nat) (c:Nat→Cl) (a:Nat) (ha:a < n) :
 Af M 111 [.ptr 0 [],.int .i64 a] [(0,C4 d l g s (.ptr 2 []) (.sl 1 [] 0 n 42)),(1,Dj n c)] 3 (Q3 (Ah (c a).v .nili) [(0,C4 d l g s (.ptr 2 []) (.sl 1 [] 0 n 42)),(1,Dj n c)] 3):=by
 have d0:((a:Int) < 0)=False:=eq_false Aa
 have d1:((n:Int)≤(a:Int))=False:=eq_false Aa
 have d2:((a:Int) < (n:Int))=True:=eq_true Aa
 have d3:(0≤(a:Int))=True:=eq_true Aa
 refine Ab ok.t.s.v.g.n.k111 rfl fun x hx=>?_
 refine es 2000 ?_;(simp only [Aj2,Akn,C4,Dc,AJ,Dj,Cl.v,d0,d1,d2,d3,LZ,seval])
 repeat refine sd ?_
 have zz:=F5 @Ah.eq_1 @dg.eq_1 @Cl.v.eq_1 @Dj.eq_1;exact Bz hx [0,1,2] ⟨rfl,rfl,rfl⟩
theorem MA (ok:OkGr M) (d:Int) (l g:BitVec 64) (s:Dg) (n:Nat) :
 Af M 117 [.ptr 0 []] [(0,C4 d l g s (.ptr 2 []) (.sl 1 [] 0 n 42))] 3 (Q3 (.int .i64 n) [(0,C4 d l g s (.ptr 2 []) (.sl 1 [] 0 n 42))] 3):=by
 refine Ab ok.t.s.v.g.n.k117 rfl fun x hx=>?_
 refine es 2000 ?_;(simp only [Ame,Ank,C4,Dc,AJ,LZ,seval])
 have zz:=@dg.eq_1;exact Bz hx [0,1,2] ⟨rfl,rfl,rfl⟩
theorem IL (ok:OkGr M) (d:Int) (l g:BitVec 64) (s:Dg) (n:Nat) :
 Af M 119 [.ptr 0 []] [(0,C4 d l g s (.ptr 2 []) (.sl 1 [] 0 n 42))] 3 (Q3 (Dc d l g s) [(0,C4 d l g s (.ptr 2 []) (.sl 1 [] 0 n 42))] 3):=by
 refine Ab ok.t.s.v.g.n.k119 rfl fun x hx=>?_
 refine es 2000 ?_;(simp only [Aml,Anu,C4,Dc,AJ,LZ,seval])
 have zz:=CC @dg.eq_1 @Dc.eq_1 @AJ.eq_1;exact Bz hx [0,1,2] ⟨rfl,rfl,rfl⟩
structure Gs.ok (G:Gs):Prop where
 w:G.wf
 b:G.bd
 n0:0 < G.n
structure Op where
 kd:Int
 cl:Int
 df:Bool
 vl:Int
 pl:Int
 off:BitVec 64
 tn:BitVec 64
 wt:BitVec 64
instance:Inhabited Op:=⟨⟨0,0,false,0,0,0,0,0⟩⟩
def Op.v (o:Op):V:=.st 8 (.fcons 0 (.int .i64 o.kd) (.fcons 1 (.int .i64 o.cl) (.fcons 2 (.bool o.df) (.fcons 3 (.int .i64 o.vl) (.fcons 4 (.int .i64 o.pl) (.fcons 5 (W o.off) (.fcons 6 (W o.tn) (.fcons 7 (W o.wt) .fnil))))))))
def clF (v:Dg) (p:Int) (t:BitVec 64):Cl:=⟨-1,1#64,v,p,0,0#64,t,false,false,false,p⟩
def Gs.new (D:Nat) (l g:BitVec 64) (s v:Dg) (p:Nat) (t:BitVec 64) (b:Nat→BitVec 64) (i o k:BitVec 64):Gs:=⟨D,l,g,s,1,fun _=>clF v p t,fun j=>if j=p then b p - 1#64 else b j,i,o,k + 1#64,fun _=>1#64,fun _=>false⟩
theorem QA {M:Seat} (ok:OkMv M) (D:Nat) (l g:BitVec 64) (s v:Dg) (p:Nat) (t:BitVec 64) (b:Nat→BitVec 64) (i o k:BitVec 64) (hD:1≤D∧D≤20) (hr:Rck l g) (hp:p < 8) (ht:¬ 1099511627776#64 < t) (hb:¬ b p < 1#64) :
 Af M 112 [Dc D l g s,.ptr 0 [],.int .i64 p,dg v,W t] [(0,BM b i o .nils k)] 1 (Q3 (Ah (.ptr 2 []) .nili) [(0,BM (fun j=>if j=p then b p - 1#64 else b j) i o (.sl 1 [] 0 1 2) (k + 1#64)),(1,FC 1 (fun _=>1#64) (fun _=>false)),(2,C4 D l g s (.ptr 0 []) (.sl 3 [] 0 1 42)),(3,Dj 1 fun _=>clF v p t)] 4):=by
 have hB:=Mq ok.g.n 0
 rw [show (if (0:Int) < 0 then 0#64 else BitVec.ofInt 64 0 + 1#64)=1#64 from rfl] at hB
 have hL:=RP ok.g.l b i o k p hp 1#64 hb
 have hC:=Ja ok l g hr
 have d0:((D:Int) < 1)=False:=eq_false Aa
 have d1:((20:Int) < (D:Int))=False:=eq_false Aa
 refine Ab ok.g.n.k112 rfl fun x hx=>?_
 refine es 2000 ?_;(simp only [Akk,Amx,Dc,AJ,d0,d1,LZ,seval])
 have zz:=@AJ.eq_1;refine CV (hC) ?_
 (simp only [ht,LZ,seval])
 refine Ai (hB) ?_
 (simp only [LZ,seval])
 have zz:=Bc @BM.eq_1 @Eo.eq_1;refine FA [0] (hL) ?_
 (simp only [BV,BM,Eo,seval])
 refine Ap.mk hx [0,465,817,785] [] (Ah (.ptr 2 []) .nili) _ 4 Aj (by (simp only [DS,seval])) (by simp only [LV,Ah,LY,seval]) ?_ ⟨rfl,rfl,rfl⟩
 simp only [BM,FC,Eo,Dj,C4,Dc,AJ,clF,Cl.v,dg,LY,seval,implies_true]
 intro j hj
 obtain rfl:j=0:=Aa
 simp only [if_true,LY,seval,implies_true]
structure Ga where
 dp:Int
 pl:Int
 rt:Int
 lm:BitVec 64
 gr:BitVec 64
 rc:BitVec 64
 nw:BitVec 64
instance:Inhabited Ga:=⟨⟨0,0,0,0,0,0,0⟩⟩
def Ga.v (a:Ga):V:=.st 7 (.fcons 0 (.int .i64 a.dp) (.fcons 1 (.int .i64 a.pl) (.fcons 2 (.int .i64 a.rt) (.fcons 3 (W a.lm) (.fcons 4 (W a.gr) (.fcons 5 (W a.rc) (.fcons 6 (W a.nw) .fnil)))))))
theorem Aio (l g:BitVec 64) (hr:Rck l g) (D:Nat) (hD:D≤20) (s v:Dg) (p:Nat) (hp:p < 8) (t:BitVec 64) (b:Nat→BitVec 64) (i o k:BitVec 64):(Gs.new D l g s v p t b i o k).ok:=by
 refine ⟨⟨hD,(by show 1≤64;decide),hr,fun j hj=>?_,fun j hj=>?_⟩,⟨fun j hj=>?_,fun j hj=>?_,fun j hj=>?_⟩,(by show 0 < 1;decide)⟩
 all_goals
  have hj:j < 1:=hj
  obtain rfl:j=0:=Aa
 ·exact ⟨0,0,Nat.zero_le _,by decide,rfl⟩
 ·exact .inl rfl
 ·exact ⟨rfl,rfl⟩
 ·exact ⟨p,hp,rfl⟩
 ·exact ⟨p,hp,rfl⟩
def d1 (a:BitVec 8):Dg:=Dg.mk' fun j=>if j=0 then a else 0#8
def Af4:LC:=(sr [A1 4 (.mv (.c .nilp)),mn 5] (.seq (.block 0 (sr [mt 14 0,A1 15 (.eq false true .ptr (.t 14) (.c .nilp)),mt 16 15,mg 17 16 false 1,A2 18 16 false (.eq false true .ptr (.t 17) (.c .nilp)),
  DG 19 16 18,mt 13 19] (.cond (.t 13) (sr [A1 20 (.mkif 74 (cI 1)),A1 4 (.mv (.c .nilp)),mt 5 20] .ret) (.seq (.regd [⟨0,0,mt 22 0⟩,⟨1,1,kl 23 119 [(.t 22)]⟩,⟨2,3,A1 24 (.fld 0 1 false (.t 23))⟩,⟨3,0,mt 25 1⟩,⟨4,8,nc 26 25⟩,⟨5,24,fa 27 1 26⟩,⟨6,56,lb 28 1 27⟩,⟨7,127,ak 29 .neq 24 28⟩,⟨8,255,mt 21 29⟩]) (.cond (.t 21) (sr [A1 30 (.mkif 74 (cI 3)),A1 4 (.mv (.c .nilp)),mt 5 30] .ret) .skip))))) (sr [mt 31 0,mt 32 1,A1 33 (.build (.st (.cons .ptr (.cons .ptr (.cons .slice (.cons .slice (.cons (.int .i64) .nil)))))) [(.f 0,1,(.t 31)),(.f 1,1,(.t 32))]),
  bX 34 33,mt 6 34] (.seq (sr [mt 35 0,kl 36 117 [(.t 35)],
  mI 37 0] (.block 1 (.loop (sr [ak 38 .lss 37 36] (.seq (EQ 38 1) (.seq (.block 2 (sr [mt 39 37,mt 7 39] (sr [mt 41 0,mt 42 7,kl 43 111 [(.t 41),(.t 42)],mt 40 43,ee 44 40 0,ee 45 40 1,A1 8 (.alloc (.st (.cons (.int .i64) (.cons (.int .u64) (.cons (.ar 32 (.int .u8)) (.cons (.int .i64) (.cons (.int .i64) (.cons (.st (.cons (.int .u64) (.cons (.int .u64) .nil))) (.cons .bool (.cons .bool (.cons .bool (.cons (.int .i64) .nil)))))))))))),sb 42 8 44,mt 9 45] (.seq (sr [mt 46 9,A1 47 (.eq true true (.iface [74]) (.t 46) (.c .nili))] (.cond (.t 47) (sr [mt 48 9,A1 4 (.mv (.c .nilp)),mt 5 48] .ret) .skip)) (.seq (.regd [⟨0,0,fa 50 1 8⟩,⟨1,1,lb 51 1 50⟩,⟨2,0,mt 52 1⟩,⟨3,4,nc 53 52⟩,⟨4,12,fa 54 1 53⟩,⟨5,28,lb 55 1 54⟩,⟨6,63,kl 56 359 [(.t 51),(.t 55)]⟩,⟨7,127,mt 49 56⟩,⟨8,255,ee 57 49 0⟩,⟨9,255,ee 58 49 1⟩,⟨10,511,mt 10 57⟩,⟨11,2047,mt 11 58⟩]) (sr [mt 60 1,mt 61 10,kl 62 154 [(.t 60),(.t 61)],mt 59 62,ee 63 59 0,ee 64 59 1,
  aB 12 32,sb 32 12 63,mt 9 64] (.seq (sr [mt 65 9,A1 66 (.eq true true (.iface [74]) (.t 65) (.c .nili))] (.cond (.t 66) (sr [mt 67 9,A1 4 (.mv (.c .nilp)),mt 5 67] .ret) .skip))
 (.regd [⟨2,0,mt 70 6⟩,⟨3,1,nc 71 70⟩,⟨4,3,fa 72 2 71⟩,⟨5,7,lb 73 1 72⟩,⟨6,0,la 74 42 8⟩,⟨7,16,A1 75 (.bsl 42 1 (.st (.cons (.int .i64) (.cons (.int .u64) (.cons (.ar 32 (.int .u8)) (.cons (.int .i64) (.cons (.int .i64) (.cons (.st (.cons (.int .u64) (.cons (.int .u64) .nil))) (.cons .bool (.cons .bool (.cons .bool (.cons (.int .i64) .nil))))))))))) [(.i 42 0,42,(.t 74))])⟩,⟨8,63,aP 76 42 96 73 75⟩,⟨9,0,mt 77 6⟩,⟨10,128,nc 78 77⟩,⟨11,384,fa 79 3 78⟩,⟨12,896,lb 80 1 79⟩,⟨13,0,la 81 32 12⟩,⟨14,0,fa 82 2 8⟩,⟨15,4096,la 83 32 82⟩,⟨16,14336,A1 84 (.eq false false (.ar 32 1 false .int) (.t 81) (.t 83))⟩,⟨17,30720,A1 85 (.bsl 1 1 .bool [(.i 1 0,1,(.t 84))])⟩,⟨18,65535,aP 86 1 1 80 85⟩,⟨0,0,mt 68 6⟩,⟨19,262143,nc 87 68⟩,⟨20,524287,fa 88 2 87⟩,⟨21,1048575,sb 1 88 76⟩,⟨1,0,mt 69 6⟩,⟨22,4194303,nc 89 69⟩,⟨23,8388607,fa 90 3 89⟩,⟨24,16777215,sb 1 90 86⟩])))))))) (.reg [aI 91 .add 37 1,mt 37 91]))))))) (.seq (sr [mt 92 6,nc 93 92,fa 94 3 93,lb 95 1 94,
  iJ 96 1 95 0,lb 97 1 96,A1 98 (.un .not (.t 97))] (.cond (.t 98) (.reg [mt 99 6,nc 100 99,fa 101 4 100,A0 (.store 1 (.t 101) (cI 1))]) .skip)) (sr [mt 102 6,mt 4 102,mn 5] .ret))))))
def Ahv:LF:=⟨Af4,2,0,103,[.tmp 4,.tmp 5]⟩
def Ans:LC:=(sr [A1 4 (.mv (.c (.bool false)))] (.seq (.block 0 (.loop (.seq (sr [mt 8 1,aI 9 .geq 8 0]
 (EQ 9 0)) (.seq (.block 1 (sr [mt 25 0,nc 26 25,fa 27 2 26,lb 28 1 27,mt 29 1,ia 30 42 28 29,la 31 42 30,A1 5 (.alloc (.st (.cons (.int .i64) (.cons (.int .u64) (.cons (.ar 32 (.int .u8)) (.cons (.int .i64) (.cons (.int .i64) (.cons (.st (.cons (.int .u64) (.cons (.int .u64) .nil))) (.cons .bool (.cons .bool (.cons .bool (.cons (.int .i64) .nil)))))))))))),sb 42 5 31] (.seq (sr [mt 32 0,nc 33 32,fa 34 3 33,lb 35 1 34,mt 36 1,ia 37 1 35 36,lb 38 1 37,A1 39 (.un .not (.t 38))] (.cond (.t 39) (sr [A1 4 (.mv (.c (.bool false)))] .ret) .skip)) (.seq (sr [fa 40 0 5,lb 41 1 40,aI 42 .lss 41 0] (.cond (.t 42) (sr [A1 4 (.mv (.c (.bool true)))] .ret) .skip)) (.seq (.regd [⟨0,0,mt 44 0⟩,⟨1,1,nc 45 44⟩,⟨2,3,fa 46 2 45⟩,⟨3,7,lb 47 1 46⟩,⟨4,0,fa 48 0 5⟩,⟨5,16,lb 49 1 48⟩,⟨6,63,ia 50 42 47 49⟩,⟨7,127,fa 51 1 50⟩,⟨8,255,lb 52 1 51⟩,⟨9,511,kl 53 131 [(.t 52)]⟩,⟨10,1023,mt 43 53⟩,⟨11,2047,ee 54 43 0⟩,⟨12,2047,ee 55 43 1⟩,⟨13,4095,mt 6 54⟩,⟨14,16383,mt 7 55⟩]) (.seq (.seq (.regd [⟨0,0,mt 56 0⟩,⟨1,1,nc 57 56⟩,⟨2,3,fa 58 3 57⟩,⟨3,7,lb 59 1 58⟩,⟨4,0,fa 60 0 5⟩,⟨5,16,lb 61 1 60⟩,⟨6,63,ia 62 1 59 61⟩,⟨7,127,lb 63 1 62⟩]) (.cond (.t 63) (.regd [⟨0,0,mt 65 0⟩,⟨1,1,nc 66 65⟩,⟨2,3,fa 67 2 66⟩,⟨3,7,lb 68 1 67⟩,⟨4,0,fa 69 0 5⟩,⟨5,16,lb 70 1 69⟩,⟨6,63,ia 71 42 68 70⟩,⟨7,127,fa 72 1 71⟩,⟨8,255,lb 73 1 72⟩,⟨9,511,kl 74 132 [(.t 73)]⟩,⟨10,1023,mt 64 74⟩,⟨11,2047,ee 75 64 0⟩,⟨12,2047,ee 76 64 1⟩,⟨13,4095,mt 6 75⟩]) .skip)) (sr [fa 77 1 5,lb 78 1 77,mt 79 6,ak 80 .neq 78 79] (.cond (.t 80) (sr [A1 4 (.mv (.c (.bool false)))] .ret) .skip))))))))
 (.regd [⟨0,0,mt 10 0⟩,⟨1,1,nc 11 10⟩,⟨2,3,fa 12 2 11⟩,⟨3,7,lb 13 1 12⟩,⟨4,0,mt 14 0⟩,⟨5,16,nc 15 14⟩,⟨6,48,fa 16 2 15⟩,⟨7,112,lb 17 1 16⟩,⟨8,0,mt 18 1⟩,⟨9,496,ia 19 42 17 18⟩,⟨10,1008,fa 20 0 19⟩,⟨11,2032,lb 21 1 20⟩,⟨12,4095,ia 22 42 13 21⟩,⟨13,8191,fa 23 0 22⟩,⟨14,16383,lb 24 1 23⟩,⟨15,32767,mt 1 24⟩]))))) (sr [A1 4 (.mv (.c (.bool true)))] .ret)))
def Ani:LF:=⟨Ans,2,0,81,[.tmp 4]⟩
def An0:LC:=(sr [bX 5 2,A1 6 (.mv (.c (.bool false))),mn 7] (.seq (sr [fa 10 38 5,lb 11 1 10] (.cond (.t 11) (sr [A1 6 (.mv (.c (.bool false))),mn 7] .ret) .skip)) (.seq (.regd [⟨0,0,fa 13 1 5⟩,⟨1,1,lb 14 1 13⟩,⟨2,0,mt 15 0⟩,⟨3,4,nc 16 15⟩,⟨4,12,fa 17 1 16⟩,⟨5,28,lb 18 1 17⟩,⟨6,60,nc 19 18⟩,⟨7,124,fa 20 1 19⟩,⟨8,252,lb 21 1 20⟩,⟨9,511,kl 22 359 [(.t 14),(.t 21)]⟩,⟨10,1023,mt 12 22⟩,⟨11,2047,ee 23 12 0⟩,⟨12,2047,ee 24 12 1⟩,⟨13,4095,mt 8 23⟩,⟨14,16383,mt 9 24⟩]) (.seq (sr [mt 25 9,A1 26 (.eq true true (.iface [74]) (.t 25) (.c .nili))] (.cond (.t 26) (sr [mt 27 9,A1 6 (.mv (.c (.bool false))),mt 7 27] .ret) .skip)) (.seq (sr [mt 28 1,nc 29 28,fa 30 2 29,lb 31 1 30] (.cond (.t 31) (.reg [mt 32 8,
  aU 33 .add 32 1,mt 8 33]) .skip)) (sr [mt 35 1,mt 36 0,nc 37 36,fa 38 1 37,lb 39 1 38,mt 40 8,kl 41 155 [(.t 39),(.t 40)],mt 34 41,ee 42 34 0,ee 43 34 1,nc 44 35,fa 45 35 44,sb 116 45 42,mt 9 43] (sr [mt 46 9,A1 6 (.mv (.c (.bool true))),mt 7 46] .ret)))))))
def f257:LF:=⟨An0,3,0,47,[.tmp 6,.tmp 7]⟩
end Mv
