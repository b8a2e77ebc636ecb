/- A part. -/
import Derived.Test.YtpcgkiecjakknaaGreatDoorFR
set_option linter.all false
set_option maxRecDepth 20000
set_option maxHeartbeats 16000000
namespace Mv
open Go
structure OkP1 (M:Seat):Prop where
 g:OkGr M
 d:OkDg M
 r:OkRt M
 v:OkTv M
def Akj (s0:Dg) (K:Nat) (C R:Nat→Dg) (h:Nat→Hd) (L:Nat→List Pf) (P:Nat→Pr):V:=CY s0 (.lst 32 K fun j=>dg (C j)) (.lst 116 K fun i=>BI (R i) (h i) (L i) (P i))
theorem Arz {M:Seat} {x:Ctx} {Q:List V→Hp→Nat→Prop} {k:List It} (hx:x.k=0) (av sv:V) (hav:∀ H m z,Az H m z av av) (hvv:∀ H m z,Bi H m z sv sv) (R0:BitVec 64) (D:Nat) (l g:BitVec 64) (s:Dg) (i n:Nat) (t:BitVec 64) (G:Gs) (m:Nat) (e:Nat→Lv) (I:Pli R0 D l g s G m e) (s0:Dg) (K:Nat) (C R:Nat→Dg) (h:Nat→Hd) (L:Nat→List Pf) (P:Nat→Pr) (tv:V) (htv:tv=Akj s0 K C R h L P) (ok:OkP1 M) (o:Op) (hk:o.kd=1):Bm M x Q (.code Aku :: .inv (plP M x R0 D l g s i n sv av tv) :: k) 11 (plG i n sv t) (plH G m e av tv ++ [(10,o.v)]):=by
 subst htv
 have hD20:=I.ok.w.hD
 have hn64:=I.ok.w.hn
 have hvl:=FN ok.v s0 K C (.lst 116 K fun i=>BI (R i) (h i) (L i) (P i)) ⟨_,rfl⟩ o.vl
 generalize EI K C o.vl=vv at *
 have hG1:=fun bd z hE=>HG ok.g G I.ok.w o.cl o.df vv o.pl bd t z hE
 have hG2:=fun bd hE=>HF ok.g G I.ok.w o.cl o.df vv o.pl bd t hE
 have hD1:=fun bd z hE=>Ann ok.d G I.ok.w m e I.L.l o.cl o.df vv o.pl bd t z hE
 have hD2:=fun bd hE=>Ani ok.d G I.ok.w m e I.L.l o.cl o.df vv o.pl bd t hE
 have hI:=fun bd hE=>Aqd I (a:=o.cl) (df:=o.df) (v:=vv) (pl:=o.pl) (bd:=bd) (t:=t) hE
 have hR1:=fun z=>Akq ok.r o.cl z
 have hR2:=Akr ok.r o.cl
 simp only [CY,BI,Hd.v,AM] at hvl
 simp only [dH,dH2,dgV,D1] at hD1 hD2
 simp only [Gs.H,Gs.H2,Ai,Al,Ac,B3] at hG1 hG2
 have hd:((0≤o.cl)=False∧0=0) ∨ ((0≤o.cl)=True∧(o.cl < (G.n:Int))=False) ∨ ((0≤o.cl)=True∧(o.cl < (G.n:Int))=True∧(o.cl.toNat < G.n)=True):=by
  by_cases h1:0≤o.cl
  ·by_cases h2:o.cl < (G.n:Int)
   ·exact .inr (.inr ⟨eq_true h1,eq_true h2,eq_true Aa⟩)
   ·exact .inr (.inl ⟨eq_true h1,eq_false h2⟩)
  ·exact .inl ⟨eq_false h1,rfl⟩
 rcases hd with hd | hd | hd
 ·refine es 2000 ?_
  (simp only [Aku,Apm,plG,Op.v,hk,hd,Akj,CY,BI,Hd.v,CR,seval,plH,plD,Gs.H,Ai,Al,Ac,Ap,Cl.v,Aq,A7,A4,dgV,dcV,Cl.d,D1,Lv.w,B3,reduceCtorEq])
  repeat refine sd ?_
  have zz:=Bb @dg.eq_1 Fs;refine L9 [] [] (hvl) ?_
  (simp only [plH,plD,Gs.H,Ai,Al,Ac,Ap,Cl.v,Aq,A7,A4,dgV,dcV,Cl.d,D1,Lv.w,B3,LZ,seval])
  skip
  cases hE:G.mE o.cl o.df vv o.pl o.off t with
  | some z =>
    have hG:=hG1 o.off z hE
    have hD:=hD1 o.off z hE
    have hR:=hR1 z
    have zz:=Ho @Ai.eq_1 @Al.eq_1 @Ac.eq_1 @Ap.eq_1 @Aq.eq_1 @A7.eq_1 @A4.eq_1 @Cl.v.eq_1 @Bt.eq_1 @dg.eq_1;refine Xs [0,1,2,3] [0,1,2,3] (hG) ?_
    (simp only [AH,Bt,plH,plD,Gs.H,Ai,Al,Ac,Ap,Cl.v,Aq,A7,A4,dgV,dcV,Cl.d,D1,Lv.w,B3,seval])
    have zz:=Bb @dg.eq_1 Fs;refine L9 [] [] (hvl) ?_
    (simp only [plH,plD,Gs.H,Ai,Al,Ac,Ap,Cl.v,Aq,A7,A4,dgV,dcV,Cl.d,D1,Lv.w,B3,LZ,seval])
    have zz:=Db @dgV.eq_1 @dcV.eq_1 @Cl.d.eq_1 @D1.eq_1 @Lv.w.eq_1 @dg.eq_1;refine Xs [4,5,6,7] [4,5,6,7] (hD) ?_
    (simp only [AH,Bt,plH,plD,Gs.H,Ai,Al,Ac,Ap,Cl.v,Aq,A7,A4,dgV,dcV,Cl.d,D1,Lv.w,B3,seval])
    have zz:=@Bt.eq_1;refine SM [1051] (hR) ?_
    (simp only [Bt,plH,plD,Gs.H,Ai,Al,Ac,Ap,Cl.v,Aq,A7,A4,dgV,dcV,Cl.d,D1,Lv.w,B3,LZ,seval])
    refine ⟨t,G,m,e,I,?_⟩
    unfold plF
    refine Ao.fr [0,1,2,3,4,5,6,7,8,9] [] hx AQ Am ?_ ?_
    ·simp only [hvv,LY,seval]
    ·simp only [hav,Akj,CY,BI,Hd.v,AM,Be,Fz,dg,plH,plD,Gs.H,Ai,Al,Ac,Ap,Cl.v,Aq,A7,A4,dgV,dcV,Cl.d,D1,Lv.w,B3,seval]
  | none =>
    have hG:=hG2 o.off hE
    have hD:=hD2 o.off hE
    have I':=hI o.off hE
    generalize G.mT o.cl o.df vv o.pl o.off t=X at *
    generalize Akg e m ⟨3,o.pl,0,o.off⟩=e' at *
    have zz:=SN @Ai.eq_1 @Al.eq_1 @Ac.eq_1 @Ap.eq_1 @Aq.eq_1 @A7.eq_1 @A4.eq_1 @Cl.v.eq_1 @dg.eq_1;refine Xs [0,1,2,3] [0,1,2,3] (hG) ?_
    (simp only [AH,plH,plD,Gs.H,Ai,Al,Ac,Ap,Cl.v,Aq,A7,A4,dgV,dcV,Cl.d,D1,Lv.w,B3,seval])
    have zz:=Bb @dg.eq_1 Fs;refine L9 [] [] (hvl) ?_
    (simp only [plH,plD,Gs.H,Ai,Al,Ac,Ap,Cl.v,Aq,A7,A4,dgV,dcV,Cl.d,D1,Lv.w,B3,LZ,seval])
    have zz:=Db @dgV.eq_1 @dcV.eq_1 @Cl.d.eq_1 @D1.eq_1 @Lv.w.eq_1 @dg.eq_1;refine Xs [4,5,6,7] [4,5,6,7] (hD) ?_
    (simp only [AH,plH,plD,Gs.H,Ai,Al,Ac,Ap,Cl.v,Aq,A7,A4,dgV,dcV,Cl.d,D1,Lv.w,B3,seval])
    refine Ak (hR2) ?_
    (simp only [plH,plD,Gs.H,Ai,Al,Ac,Ap,Cl.v,Aq,A7,A4,dgV,dcV,Cl.d,D1,Lv.w,B3,LZ,seval])
    refine ⟨t,X,m + 1,e',I',?_⟩
    unfold plF
    refine Ao.fr [0,1051,2,1052,4,1659,6,1660,8,9] [] hx AQ Am ?_ ?_
    ·simp only [hvv,LY,seval]
    ·simp only [hav,Akj,CY,BI,Hd.v,AM,Be,Fz,dg,plH,plD,Gs.H,Ai,Al,Ac,Ap,Cl.v,Aq,A7,A4,dgV,dcV,Cl.d,D1,Lv.w,B3,seval]
 ·refine es 2000 ?_
  (simp only [Aku,Apm,plG,Op.v,hk,hd,Akj,CY,BI,Hd.v,CR,seval,plH,plD,Gs.H,Ai,Al,Ac,Ap,Cl.v,Aq,A7,A4,dgV,dcV,Cl.d,D1,Lv.w,B3,reduceCtorEq])
  repeat refine sd ?_
  have zz:=Bb @dg.eq_1 Fs;refine L9 [] [] (hvl) ?_
  (simp only [plH,plD,Gs.H,Ai,Al,Ac,Ap,Cl.v,Aq,A7,A4,dgV,dcV,Cl.d,D1,Lv.w,B3,LZ,seval])
  skip
  cases hE:G.mE o.cl o.df vv o.pl o.off t with
  | some z =>
    have hG:=hG1 o.off z hE
    have hD:=hD1 o.off z hE
    have hR:=hR1 z
    have zz:=Ho @Ai.eq_1 @Al.eq_1 @Ac.eq_1 @Ap.eq_1 @Aq.eq_1 @A7.eq_1 @A4.eq_1 @Cl.v.eq_1 @Bt.eq_1 @dg.eq_1;refine Xs [0,1,2,3] [0,1,2,3] (hG) ?_
    (simp only [AH,Bt,plH,plD,Gs.H,Ai,Al,Ac,Ap,Cl.v,Aq,A7,A4,dgV,dcV,Cl.d,D1,Lv.w,B3,seval])
    have zz:=Bb @dg.eq_1 Fs;refine L9 [] [] (hvl) ?_
    (simp only [plH,plD,Gs.H,Ai,Al,Ac,Ap,Cl.v,Aq,A7,A4,dgV,dcV,Cl.d,D1,Lv.w,B3,LZ,seval])
    have zz:=Db @dgV.eq_1 @dcV.eq_1 @Cl.d.eq_1 @D1.eq_1 @Lv.w.eq_1 @dg.eq_1;refine Xs [4,5,6,7] [4,5,6,7] (hD) ?_
    (simp only [AH,Bt,plH,plD,Gs.H,Ai,Al,Ac,Ap,Cl.v,Aq,A7,A4,dgV,dcV,Cl.d,D1,Lv.w,B3,seval])
    have zz:=@Bt.eq_1;refine SM [1051] (hR) ?_
    (simp only [Bt,plH,plD,Gs.H,Ai,Al,Ac,Ap,Cl.v,Aq,A7,A4,dgV,dcV,Cl.d,D1,Lv.w,B3,LZ,seval])
    refine ⟨t,G,m,e,I,?_⟩
    unfold plF
    refine Ao.fr [0,1,2,3,4,5,6,7,8,9] [] hx AQ Am ?_ ?_
    ·simp only [hvv,LY,seval]
    ·simp only [hav,Akj,CY,BI,Hd.v,AM,Be,Fz,dg,plH,plD,Gs.H,Ai,Al,Ac,Ap,Cl.v,Aq,A7,A4,dgV,dcV,Cl.d,D1,Lv.w,B3,seval]
  | none =>
    have hG:=hG2 o.off hE
    have hD:=hD2 o.off hE
    have I':=hI o.off hE
    generalize G.mT o.cl o.df vv o.pl o.off t=X at *
    generalize Akg e m ⟨3,o.pl,0,o.off⟩=e' at *
    have zz:=SN @Ai.eq_1 @Al.eq_1 @Ac.eq_1 @Ap.eq_1 @Aq.eq_1 @A7.eq_1 @A4.eq_1 @Cl.v.eq_1 @dg.eq_1;refine Xs [0,1,2,3] [0,1,2,3] (hG) ?_
    (simp only [AH,plH,plD,Gs.H,Ai,Al,Ac,Ap,Cl.v,Aq,A7,A4,dgV,dcV,Cl.d,D1,Lv.w,B3,seval])
    have zz:=Bb @dg.eq_1 Fs;refine L9 [] [] (hvl) ?_
    (simp only [plH,plD,Gs.H,Ai,Al,Ac,Ap,Cl.v,Aq,A7,A4,dgV,dcV,Cl.d,D1,Lv.w,B3,LZ,seval])
    have zz:=Db @dgV.eq_1 @dcV.eq_1 @Cl.d.eq_1 @D1.eq_1 @Lv.w.eq_1 @dg.eq_1;refine Xs [4,5,6,7] [4,5,6,7] (hD) ?_
    (simp only [AH,plH,plD,Gs.H,Ai,Al,Ac,Ap,Cl.v,Aq,A7,A4,dgV,dcV,Cl.d,D1,Lv.w,B3,seval])
    refine Ak (hR2) ?_
    (simp only [plH,plD,Gs.H,Ai,Al,Ac,Ap,Cl.v,Aq,A7,A4,dgV,dcV,Cl.d,D1,Lv.w,B3,LZ,seval])
    refine ⟨t,X,m + 1,e',I',?_⟩
    unfold plF
    refine Ao.fr [0,1051,2,1052,4,1659,6,1660,8,9] [] hx AQ Am ?_ ?_
    ·simp only [hvv,LY,seval]
    ·simp only [hav,Akj,CY,BI,Hd.v,AM,Be,Fz,dg,plH,plD,Gs.H,Ai,Al,Ac,Ap,Cl.v,Aq,A7,A4,dgV,dcV,Cl.d,D1,Lv.w,B3,seval]
 ·refine es 2000 ?_
  (simp only [Aku,Apm,plG,Op.v,hk,hd,Akj,CY,BI,Hd.v,CR,seval,plH,plD,Gs.H,Ai,Al,Ac,Ap,Cl.v,Aq,A7,A4,dgV,dcV,Cl.d,D1,Lv.w,B3,reduceCtorEq])
  repeat refine sd ?_
  have zz:=Bb @dg.eq_1 Fs;refine L9 [] [] (hvl) ?_
  (simp only [plH,plD,Gs.H,Ai,Al,Ac,Ap,Cl.v,Aq,A7,A4,dgV,dcV,Cl.d,D1,Lv.w,B3,LZ,seval])
  generalize o.off + BitVec.ofInt 64 (IntKind.i64.wrap (((Ia (G.c o.cl.toNat).pos:Nat):Int) + 2))=bd at *
  cases hE:G.mE o.cl o.df vv o.pl bd t with
  | some z =>
    have hG:=hG1 bd z hE
    have hD:=hD1 bd z hE
    have hR:=hR1 z
    have zz:=Ho @Ai.eq_1 @Al.eq_1 @Ac.eq_1 @Ap.eq_1 @Aq.eq_1 @A7.eq_1 @A4.eq_1 @Cl.v.eq_1 @Bt.eq_1 @dg.eq_1;refine Xs [0,1,2,3] [0,1,2,3] (hG) ?_
    (simp only [AH,Bt,plH,plD,Gs.H,Ai,Al,Ac,Ap,Cl.v,Aq,A7,A4,dgV,dcV,Cl.d,D1,Lv.w,B3,seval])
    have zz:=Bb @dg.eq_1 Fs;refine L9 [] [] (hvl) ?_
    (simp only [plH,plD,Gs.H,Ai,Al,Ac,Ap,Cl.v,Aq,A7,A4,dgV,dcV,Cl.d,D1,Lv.w,B3,LZ,seval])
    have zz:=Db @dgV.eq_1 @dcV.eq_1 @Cl.d.eq_1 @D1.eq_1 @Lv.w.eq_1 @dg.eq_1;refine Xs [4,5,6,7] [4,5,6,7] (hD) ?_
    (simp only [AH,Bt,plH,plD,Gs.H,Ai,Al,Ac,Ap,Cl.v,Aq,A7,A4,dgV,dcV,Cl.d,D1,Lv.w,B3,seval])
    have zz:=@Bt.eq_1;refine SM [1499] (hR) ?_
    (simp only [Bt,plH,plD,Gs.H,Ai,Al,Ac,Ap,Cl.v,Aq,A7,A4,dgV,dcV,Cl.d,D1,Lv.w,B3,LZ,seval])
    refine ⟨t,G,m,e,I,?_⟩
    unfold plF
    refine Ao.fr [0,1,2,3,4,5,6,7,8,9] [] hx AQ Am ?_ ?_
    ·simp only [hvv,LY,seval]
    ·simp only [hav,Akj,CY,BI,Hd.v,AM,Be,Fz,dg,plH,plD,Gs.H,Ai,Al,Ac,Ap,Cl.v,Aq,A7,A4,dgV,dcV,Cl.d,D1,Lv.w,B3,seval]
  | none =>
    have hG:=hG2 bd hE
    have hD:=hD2 bd hE
    have I':=hI bd hE
    generalize G.mT o.cl o.df vv o.pl bd t=X at *
    generalize Akg e m ⟨3,o.pl,0,bd⟩=e' at *
    have zz:=SN @Ai.eq_1 @Al.eq_1 @Ac.eq_1 @Ap.eq_1 @Aq.eq_1 @A7.eq_1 @A4.eq_1 @Cl.v.eq_1 @dg.eq_1;refine Xs [0,1,2,3] [0,1,2,3] (hG) ?_
    (simp only [AH,plH,plD,Gs.H,Ai,Al,Ac,Ap,Cl.v,Aq,A7,A4,dgV,dcV,Cl.d,D1,Lv.w,B3,seval])
    have zz:=Bb @dg.eq_1 Fs;refine L9 [] [] (hvl) ?_
    (simp only [plH,plD,Gs.H,Ai,Al,Ac,Ap,Cl.v,Aq,A7,A4,dgV,dcV,Cl.d,D1,Lv.w,B3,LZ,seval])
    have zz:=Db @dgV.eq_1 @dcV.eq_1 @Cl.d.eq_1 @D1.eq_1 @Lv.w.eq_1 @dg.eq_1;refine Xs [4,5,6,7] [4,5,6,7] (hD) ?_
    (simp only [AH,plH,plD,Gs.H,Ai,Al,Ac,Ap,Cl.v,Aq,A7,A4,dgV,dcV,Cl.d,D1,Lv.w,B3,seval])
    refine Ak (hR2) ?_
    (simp only [plH,plD,Gs.H,Ai,Al,Ac,Ap,Cl.v,Aq,A7,A4,dgV,dcV,Cl.d,D1,Lv.w,B3,LZ,seval])
    refine ⟨t,X,m + 1,e',I',?_⟩
    unfold plF
    refine Ao.fr [0,1499,2,1500,4,2107,6,2108,8,9] [] hx AQ Am ?_ ?_
    ·simp only [hvv,LY,seval]
    ·simp only [hav,Akj,CY,BI,Hd.v,AM,Be,Fz,dg,plH,plD,Gs.H,Ai,Al,Ac,Ap,Cl.v,Aq,A7,A4,dgV,dcV,Cl.d,D1,Lv.w,B3,seval]
def plS (G:Gs) (vf:Dg→Dg × Option Int) (o:Op) (nx:Dg) (why:Int):Prop:=∀ p:Nat,o.cl=p→p < G.n→Ia (G.c p).pos=G.D→¬ (o.df=true∧G.enJ p=none)→(why=0 ↔ (vf (G.sA p o.df)).2=none)∧((vf (G.sA p o.df)).2=none→(vf (G.sA p o.df)).1=nx)∧∀ z,(vf (G.sA p o.df)).2=some z→why=z
def Amh (i n:Nat) (sv:V) (t:BitVec 64) (why:Int):List V:=fr 513 [(2,.ptr 8 []),(6,.ptr 9 []),(8,.ptr 2 []),(9,.ptr 6 []),(10,W t),(11,.ptr 0 []),(13,.ptr 4 []),(18,.ptr 10 []),(24,.ptr 11 []),(25,.ptr 12 []),(26,.int .i64 why),(139,sv),(140,.int .i64 n),(141,.int .i64 i)]
theorem Ap8 {M:Seat} {x:Ctx} {Q:List V→Hp→Nat→Prop} {k:List It} (hx:x.k=0) (av tv sv:V) (hav:∀ H m z,Az H m z av av) (htv:∀ H m z,Az H m z tv tv) (hvv:∀ H m z,Bi H m z sv sv) (R0:BitVec 64) (D:Nat) (l g:BitVec 64) (s:Dg) (i n:Nat) (t:BitVec 64) (G:Gs) (m:Nat) (e:Nat→Lv) (I:Pli R0 D l g s G m e) {K:Nat} {R:Nat→Dg} {h:Nat→Hd} {L:Nat→List Pf} {P:Nat→Pr} {vf:Nat→BitVec 64→Dg→Dg × Option Int} (tr:Trc M K R h L P vf) (ok:OkP1 M) (o:Op) (j:Nat) (hj:j < K) (nx:Dg) (why:Int) (hvf:plS G (vf j o.tn) o nx why) :
 Bm M x Q (.code An9 :: .blk 2 :: .inv (plP M x R0 D l g s i n sv av tv) :: k) 13 (Amh i n sv t why) (plH G m e av tv ++ [(10,o.v),(11,BI (R j) (tuH (h j) o.tn) (L j) (P j)),(12,dg nx)]):=by
 have hG:=JK ok.g G I.ok.w (vf j o.tn) (R j) (tuH (h j) o.tn) (L j) (P j) (tr.a j hj o.tn) o.cl o.df o.pl t
 have hD:=Anl ok.d G I.ok.w m e (vf j o.tn) o.cl o.df o.pl t nx why hvf
 simp only [BI,tuH,Hd.v,AM] at hG
 cases hE:G.tE (vf j o.tn) o.cl o.df o.pl t with
 | some z =>
   have hG:=hG.1 z hE
   have hD:=hD.1 z hE
   have hR:=Akq ok.r o.cl z
   simp only [Gs.H,Ai,Al,Ac,B3] at hG
   simp only [dH,dgV,D1] at hD
   refine es 2000 ?_
   (simp only [An9,Amh,Op.v,BI,tuH,Hd.v,CR,plH,plD,Gs.H,Ai,Al,Ac,Ap,Cl.v,Aq,A7,A4,dgV,dcV,Cl.d,D1,Lv.w,B3,seval])
   have zz:=BT @Ai.eq_1 @Al.eq_1 @Ac.eq_1 @Ap.eq_1 @Aq.eq_1 @A7.eq_1 @A4.eq_1 @Cl.v.eq_1 @Bt.eq_1 @dg.eq_1 Fs;refine Xs [0,1,2,3] [0,1,2,3] (hG) ?_
   (simp only [Bt,plH,plD,Gs.H,Ai,Al,Ac,Ap,Cl.v,Aq,A7,A4,dgV,dcV,Cl.d,D1,Lv.w,B3,LZ,seval])
   have zz:=Db @dgV.eq_1 @dcV.eq_1 @Cl.d.eq_1 @D1.eq_1 @Lv.w.eq_1 @dg.eq_1;refine Xs [4,5,6,7] [4,5,6,7] (hD) ?_
   (simp only [Bt,plH,plD,Gs.H,Ai,Al,Ac,Ap,Cl.v,Aq,A7,A4,dgV,dcV,Cl.d,D1,Lv.w,B3,LZ,seval])
   have zz:=@Bt.eq_1;refine omY [557] (hR) ?_
   (simp only [Bt,plH,plD,Gs.H,Ai,Al,Ac,Ap,Cl.v,Aq,A7,A4,dgV,dcV,Cl.d,D1,Lv.w,B3,LZ,seval])
   refine ⟨t,G,m,e,I,?_⟩
   unfold plF
   refine Ao.fr [0,1,2,3,4,5,6,7,8,9] [] hx AQ Am ?_ ?_
   ·simp only [hvv,LY,seval]
   ·simp only [hav,htv,dg,plH,plD,Gs.H,Ai,Al,Ac,Ap,Cl.v,Aq,A7,A4,dgV,dcV,Cl.d,D1,Lv.w,B3,LY,seval]
 | none =>
   have hG:=hG.2 hE
   have hD:=hD.2 hE
   have hR:=Akr ok.r o.cl
   have I':=Aqf I hE
   generalize G.tT o.cl o.pl=X at *
   simp only [Gs.H,Ai,Al,Ac,B3] at hG
   simp only [dH,dgV,D1] at hD
   refine es 2000 ?_
   (simp only [An9,Amh,Op.v,BI,tuH,Hd.v,CR,plH,plD,Gs.H,Ai,Al,Ac,Ap,Cl.v,Aq,A7,A4,dgV,dcV,Cl.d,D1,Lv.w,B3,seval])
   have zz:=Ho @Ai.eq_1 @Al.eq_1 @Ac.eq_1 @Ap.eq_1 @Aq.eq_1 @A7.eq_1 @A4.eq_1 @Cl.v.eq_1 @dg.eq_1 Fs;refine Xs [0,1,2,3] [0,1,2,3] (hG) ?_
   (simp only [plH,plD,Gs.H,Ai,Al,Ac,Ap,Cl.v,Aq,A7,A4,dgV,dcV,Cl.d,D1,Lv.w,B3,LZ,seval])
   have zz:=Db @dgV.eq_1 @dcV.eq_1 @Cl.d.eq_1 @D1.eq_1 @Lv.w.eq_1 @dg.eq_1;refine Xs [4,5,6,7] [4,5,6,7] (hD) ?_
   (simp only [plH,plD,Gs.H,Ai,Al,Ac,Ap,Cl.v,Aq,A7,A4,dgV,dcV,Cl.d,D1,Lv.w,B3,LZ,seval])
   refine Bq (hR) ?_
   (simp only [plH,plD,Gs.H,Ai,Al,Ac,Ap,Cl.v,Aq,A7,A4,dgV,dcV,Cl.d,D1,Lv.w,B3,LZ,seval])
   refine ⟨t,X,m,e,I',?_⟩
   unfold plF
   refine Ao.fr [0,1,2,3,4,5,6,7,8,9] [] hx AQ Am ?_ ?_
   ·simp only [hvv,LY,seval]
   ·simp only [hav,htv,dg,plH,plD,Gs.H,Ai,Al,Ac,Ap,Cl.v,Aq,A7,A4,dgV,dcV,Cl.d,D1,Lv.w,B3,LY,seval]
theorem Aor {y:Dg × Option Int} (hz:∀ z,y.2=some z→z ≠ 0):(erI y.2=0 ↔ y.2=none)∧(y.2=none→y.1=y.1)∧∀ z,y.2=some z→erI y.2=z:=by
 obtain ⟨d,e⟩:=y
 cases e with
 | none=>exact ⟨⟨fun _=>rfl,fun _=>rfl⟩,fun _=>rfl,fun z h=>by cases h⟩
 | some e=>exact ⟨⟨fun h=>absurd h (hz e rfl),fun h=>by cases h⟩,fun _=>rfl,fun z h=>by cases h;rfl⟩
theorem ixK {K:Nat} (k0:0 < K) (k1:K≤16) (n:Int):∃ j:Nat,j < K∧(BitVec.ofInt 64 n % BitVec.ofInt 64 (K:Int)).toInt=(j:Int):=by
 have e:(BitVec.ofInt 64 (K:Int)).toNat=K:=by rw [BitVec.ofInt_natCast,BitVec.toNat_ofNat];omega
 refine ⟨(BitVec.ofInt 64 n % BitVec.ofInt 64 (K:Int)).toNat,?_,?_⟩
 ·rw [BitVec.toNat_umod,e];exact Nat.mod_lt _ k0
 ·have:(BitVec.ofInt 64 n % BitVec.ofInt 64 (K:Int)).toNat < K:=by rw [BitVec.toNat_umod,e];exact Nat.mod_lt _ k0
  rw [BitVec.toInt_eq_toNat_cond,if_pos Aa]
theorem Aro {M:Seat} {x:Ctx} {Q:List V→Hp→Nat→Prop} {k:List It} (hx:x.k=0) (av sv:V) (hav:∀ H m z,Az H m z av av) (hvv:∀ H m z,Bi H m z sv sv) (R0:BitVec 64) (D:Nat) (l g:BitVec 64) (s:Dg) (i n:Nat) (t:BitVec 64) (G:Gs) (m:Nat) (e:Nat→Lv) (I:Pli R0 D l g s G m e) (s0:Dg) (C:Nat→Dg) {K:Nat} {R:Nat→Dg} {h:Nat→Hd} {L:Nat→List Pf} {P:Nat→Pr} {vf:Nat→BitVec 64→Dg→Dg × Option Int} (tr:Trc M K R h L P vf) (tv:V) (htv:tv=Akj s0 K C R h L P) (ok:OkP1 M) (o:Op) (hk:o.kd=2):Bm M x Q (.code Aku :: .inv (plP M x R0 D l g s i n sv av tv) :: k) 11 (plG i n sv t) (plH G m e av tv ++ [(10,o.v)]):=by
 obtain ⟨j,hj,hji⟩:=ixK tr.k0 tr.k1 o.vl
 have z0:(BitVec.ofInt 64 (K:Int)=0#64)=False:=by
  have hk1:=tr.k1
  have hk0:=tr.k0
  refine eq_false fun h=>?_
  have:=congrArg BitVec.toNat h
  rw [BitVec.ofInt_natCast,BitVec.toNat_ofNat] at this
  simp at this
  omega
 have j0:(0≤(j:Int))=True:=eq_true Aa
 have j1:((j:Int) < (K:Int))=True:=eq_true Aa
 have htvv:∀ H m z,Az H m z tv tv:=by
  intro H m z
  rw [htv]
  simp only [Akj,CY,BI,Hd.v,AM,Be,Fz,dg,seval]
 have key:=fun nx why hvf=>Ap8 (x:=x) (Q:=Q) (k:=k) hx av tv sv hav htvv hvv R0 D l g s i n t G m e I tr ok o j hj nx why hvf
 refine es 18 ?_
 rw [htv]
 (simp only [Aku,Asg,plG,Op.v,hk,z0,hji,j0,j1,Akj,CY,BI,Hd.v,CR,seval,plH,plD,Gs.H,Ai,Al,Ac,Ap,Cl.v,Aq,A7,A4,dgV,dcV,Cl.d,D1,Lv.w,B3,reduceCtorEq])
 repeat refine sd ?_
 refine Anb (P:=fun A H N=>∃ nx why,plS G (vf j o.tn) o nx why∧Ao M x A H N (Amh i n sv t why) (plH G m e av tv ++ [(10,o.v),(11,BI (R j) (tuH (h j) o.tn) (L j) (P j)),(12,dg nx)]) 13) ?_ (fun A H N h=>by
  obtain ⟨nx,why,hvf,hw⟩:=h
  subst htv
  exact Bm.weak _ _ _ hw (key nx why hvf))
 have hd:((0≤o.cl)=False∧0=0) ∨ ((0≤o.cl)=True∧(o.cl < (G.n:Int))=False) ∨ ∃ p:Nat,o.cl=p∧p < G.n:=by
  by_cases h1:0≤o.cl
  ·by_cases h2:o.cl < (G.n:Int)
   ·exact .inr (.inr ⟨o.cl.toNat,by omega,by omega⟩)
   ·exact .inr (.inl ⟨eq_true h1,eq_false h2⟩)
  ·exact .inl ⟨eq_false h1,rfl⟩
 rcases hd with hd | hd | ⟨p,hp,hpn⟩
 ·have hv:plS G (vf j o.tn) o Dg.zero 0:=fun p hp hpn _ _=>(hd.1.mp Aa).elim
  refine es 2000 ?_
  (simp only [Amf,hd,plH,plD,Gs.H,Ai,Al,Ac,Ap,Cl.v,Aq,A7,A4,dgV,dcV,Cl.d,D1,Lv.w,B3,LZ,seval])
  refine ⟨Dg.zero,0,hv,?_⟩
  unfold Amh
  refine Ao.fr [0,1,2,3,4,5,6,7,8,9,10,315,731] [] hx AQ Am ?_ ?_
  ·simp only [hvv,LY,seval]
  ·simp only [hav,htv,hk,Akj,CY,BI,tuH,Hd.v,AM,Be,Fz,dg,Dg.at_zero,Op.v,plH,plD,Gs.H,Ai,Al,Ac,Ap,Cl.v,Aq,A7,A4,dgV,dcV,Cl.d,D1,Lv.w,B3,seval]
 ·have hv:plS G (vf j o.tn) o Dg.zero 0:=fun p hp hpn _ _=>(hd.2.mp Aa).elim
  refine es 2000 ?_
  (simp only [Amf,hd,plH,plD,Gs.H,Ai,Al,Ac,Ap,Cl.v,Aq,A7,A4,dgV,dcV,Cl.d,D1,Lv.w,B3,LZ,seval])
  refine ⟨Dg.zero,0,hv,?_⟩
  unfold Amh
  refine Ao.fr [0,1,2,3,4,5,6,7,8,9,10,315,731] [] hx AQ Am ?_ ?_
  ·simp only [hvv,LY,seval]
  ·simp only [hav,htv,hk,Akj,CY,BI,tuH,Hd.v,AM,Be,Fz,dg,Dg.at_zero,Op.v,plH,plD,Gs.H,Ai,Al,Ac,Ap,Cl.v,Aq,A7,A4,dgV,dcV,Cl.d,D1,Lv.w,B3,seval]
 have d2:(0≤(p:Int))=True:=eq_true Aa
 have d3:((p:Int) < (G.n:Int))=True:=eq_true Aa
 have cS:∀ p':Nat,o.cl=p'→p'=p:=fun p' h=>by omega
 by_cases hdp:Ia (G.c p).pos=G.D
 case neg =>
  have d4:(((Ia (G.c p).pos:Nat):Int)=(G.D:Int))=False:=eq_false Aa
  have hv:plS G (vf j o.tn) o Dg.zero 0:=fun p' hp' _ h=>by rw [cS p' hp'] at h;exact absurd h hdp
  refine es 2000 ?_
  (simp only [Amf,hp,d2,d3,d4,plH,plD,Gs.H,Ai,Al,Ac,Ap,Cl.v,Aq,A7,A4,dgV,dcV,Cl.d,D1,Lv.w,B3,LZ,seval])
  repeat refine sd ?_
  refine ⟨Dg.zero,0,hv,?_⟩
  unfold Amh
  refine Ao.fr [0,1,2,3,4,5,6,7,8,9,10,315,731] [] hx AQ Am ?_ ?_
  ·simp only [hvv,LY,seval]
  ·simp only [hav,htv,hk,hp,Akj,CY,BI,tuH,Hd.v,AM,Be,Fz,dg,Dg.at_zero,Op.v,plH,plD,Gs.H,Ai,Al,Ac,Ap,Cl.v,Aq,A7,A4,dgV,dcV,Cl.d,D1,Lv.w,B3,seval]
 have d4:(((Ia (G.c p).pos:Nat):Int)=(G.D:Int))=True:=eq_true Aa
 cases hdf:o.df with
 | false =>
   have hN:=Alo ok.d G I.ok.w p hpn
   have hB:=tr.b j hj o.tn (G.enA p)
   have hv:plS G (vf j o.tn) o (vf j o.tn (G.enA p)).1 (erI (vf j o.tn (G.enA p)).2):=fun p' hp' _ _ _=>by
    rw [cS p' hp',show G.sA p o.df=G.enA p by rw [hdf];rfl]
    exact Aor (tr.z j hj o.tn (G.enA p))
   generalize vf j o.tn (G.enA p)=y at *
   generalize G.enA p=y2 at *
   simp only [BI,tuH,Hd.v,AM] at hB
   refine es 2000 ?_
   (simp only [Amf,hp,hdf,d2,d3,d4,plH,plD,Gs.H,Ai,Al,Ac,Ap,Cl.v,Aq,A7,A4,dgV,dcV,Cl.d,D1,Lv.w,B3,LZ,seval])
   repeat refine sd ?_
   have zz:=Ka @dgV.eq_1 @dcV.eq_1 @Cl.d.eq_1 @dg.eq_1;refine Bw [4,5,6] [4,5] (hN) ?_
   (simp only [HT,plH,plD,Gs.H,Ai,Al,Ac,Ap,Cl.v,Aq,A7,A4,dgV,dcV,Cl.d,D1,Lv.w,B3,LZ,seval])
   have zz:=Bb @dg.eq_1 Fs;refine Bw [] [] (hB) ?_
   (simp only [AH,plH,plD,Gs.H,Ai,Al,Ac,Ap,Cl.v,Aq,A7,A4,dgV,dcV,Cl.d,D1,Lv.w,B3,seval])
   refine ⟨y.1,erI y.2,hv,?_⟩
   unfold Amh
   refine Ao.fr [0,1,2,3,4,5,6,7,8,9,10,315,731] [] hx AQ Am ?_ ?_
   ·simp only [hvv,LY,seval]
   ·simp only [hav,htv,hk,hp,hdf,Akj,CY,BI,tuH,Hd.v,AM,Be,Fz,dg,Dg.at_zero,Op.v,plH,plD,Gs.H,Ai,Al,Ac,Ap,Cl.v,Aq,A7,A4,dgV,dcV,Cl.d,D1,Lv.w,B3,seval]
 | true =>
   have hN:=Alt ok.d G I.ok.w p hpn
   unfold Gs.denD at hN
   cases hJ:G.enJ p with
   | none =>
     rw [hJ] at hN
     have hv:plS G (vf j o.tn) o Dg.zero 0:=fun p' hp' _ _ h=>by rw [cS p' hp'] at h;exact absurd ⟨hdf,hJ⟩ h
     simp only [dgV] at hN
     refine es 2000 ?_
     (simp only [Amf,hp,hdf,d2,d3,d4,plH,plD,Gs.H,Ai,Al,Ac,Ap,Cl.v,Aq,A7,A4,dgV,dcV,Cl.d,D1,Lv.w,B3,LZ,seval])
     repeat refine sd ?_
     have zz:=Ka @dgV.eq_1 @dcV.eq_1 @Cl.d.eq_1 @dg.eq_1;refine Bw [4,5,6] [4,5] (hN) ?_
     (simp only [HT,seval,plH,plD,Gs.H,Ai,Al,Ac,Ap,Cl.v,Aq,A7,A4,dgV,dcV,Cl.d,D1,Lv.w,B3,LZ,reduceCtorEq])
     refine ⟨Dg.zero,0,hv,?_⟩
     unfold Amh
     refine Ao.fr [0,1,2,3,4,5,6,7,8,9,10,315,731] [] hx AQ Am ?_ ?_
     ·simp only [hvv,LY,seval]
     ·simp only [hav,htv,hk,hp,hdf,Akj,CY,BI,tuH,Hd.v,AM,Be,Fz,dg,Dg.at_zero,Op.v,plH,plD,Gs.H,Ai,Al,Ac,Ap,Cl.v,Aq,A7,A4,dgV,dcV,Cl.d,D1,Lv.w,B3,seval]
   | some j2 =>
     rw [hJ] at hN
     dsimp only at hN
     have hB:=tr.b j hj o.tn (G.c p).val
     have hv:plS G (vf j o.tn) o (vf j o.tn (G.c p).val).1 (erI (vf j o.tn (G.c p).val).2):=fun p' hp' _ _ _=>by
      rw [cS p' hp',show G.sA p o.df=(G.c p).val by rw [hdf];rfl]
      exact Aor (tr.z j hj o.tn (G.c p).val)
     generalize vf j o.tn (G.c p).val=y at *
     generalize (G.c p).val=y2 at *
     simp only [BI,tuH,Hd.v,AM] at hB
     refine es 2000 ?_
     (simp only [Amf,hp,hdf,d2,d3,d4,plH,plD,Gs.H,Ai,Al,Ac,Ap,Cl.v,Aq,A7,A4,dgV,dcV,Cl.d,D1,Lv.w,B3,LZ,seval])
     repeat refine sd ?_
     have zz:=Ka @dgV.eq_1 @dcV.eq_1 @Cl.d.eq_1 @dg.eq_1;refine Bw [4,5,6] [4,5] (hN) ?_
     (simp only [HT,plH,plD,Gs.H,Ai,Al,Ac,Ap,Cl.v,Aq,A7,A4,dgV,dcV,Cl.d,D1,Lv.w,B3,LZ,seval])
     have zz:=Bb @dg.eq_1 Fs;refine Bw [] [] (hB) ?_
     (simp only [AH,plH,plD,Gs.H,Ai,Al,Ac,Ap,Cl.v,Aq,A7,A4,dgV,dcV,Cl.d,D1,Lv.w,B3,seval])
     refine ⟨y.1,erI y.2,hv,?_⟩
     unfold Amh
     refine Ao.fr [0,1,2,3,4,5,6,7,8,9,10,315,731] [] hx AQ Am ?_ ?_
     ·simp only [hvv,LY,seval]
     ·simp only [hav,htv,hk,hp,hdf,Akj,CY,BI,tuH,Hd.v,AM,Be,Fz,dg,Dg.at_zero,Op.v,plH,plD,Gs.H,Ai,Al,Ac,Ap,Cl.v,Aq,A7,A4,dgV,dcV,Cl.d,D1,Lv.w,B3,seval]
structure OkP3 (M:Seat):Prop where
 g:OkGr M
 d:OkDg M
 r:OkRt M
theorem Ass {M:Seat} {x:Ctx} {Q:List V→Hp→Nat→Prop} {k:List It} (hx:x.k=0) (av tv sv:V) (hav:∀ H m z,Az H m z av av) (htv:∀ H m z,Az H m z tv tv) (hvv:∀ H m z,Bi H m z sv sv) (R0:BitVec 64) (D:Nat) (l g:BitVec 64) (s:Dg) (i n:Nat) (t:BitVec 64) (G:Gs) (m:Nat) (e:Nat→Lv) (I:Pli R0 D l g s G m e) (ok:OkP3 M) (o:Op) (hk:o.kd=3):Bm M x Q (.code Aku :: .inv (plP M x R0 D l g s i n sv av tv) :: k) 11 (plG i n sv t) (plH G m e av tv ++ [(10,o.v)]):=by
 have hG:=DE ok.g G I.ok.w I.ok.b o.cl t
 cases hE:G.rE o.cl t with
 | some z =>
   have hG:=hG.1 z hE
   have hD:=Akw ok.d G I.ok.w I.ok.b m e I.L.l o.cl t z hE
   have hR:=Akq ok.r o.cl z
   simp only [Gs.H,Ai,Al,Ac,B3] at hG
   simp only [dH,dgV,D1] at hD
   refine es 2000 ?_
   (simp only [Aku,Aqy,plG,Op.v,hk,seval,plH,plD,Gs.H,Ai,Al,Ac,Ap,Cl.v,Aq,A7,A4,dgV,dcV,Cl.d,D1,Lv.w,B3,LZ,reduceCtorEq])
   have zz:=Ho @Ai.eq_1 @Al.eq_1 @Ac.eq_1 @Ap.eq_1 @Aq.eq_1 @A7.eq_1 @A4.eq_1 @Cl.v.eq_1 @Bt.eq_1 @dg.eq_1;refine Xs [0,1,2,3] [0,1,2,3] (hG) ?_
   (simp only [Bt,plH,plD,Gs.H,Ai,Al,Ac,Ap,Cl.v,Aq,A7,A4,dgV,dcV,Cl.d,D1,Lv.w,B3,LZ,seval])
   have zz:=Db @dgV.eq_1 @dcV.eq_1 @Cl.d.eq_1 @D1.eq_1 @Lv.w.eq_1 @dg.eq_1;refine Xs [4,5,6,7] [4,5,6,7] (hD) ?_
   (simp only [Bt,plH,plD,Gs.H,Ai,Al,Ac,Ap,Cl.v,Aq,A7,A4,dgV,dcV,Cl.d,D1,Lv.w,B3,LZ,seval])
   have zz:=@Bt.eq_1;refine omY [427] (hR) ?_
   (simp only [Bt,plH,plD,Gs.H,Ai,Al,Ac,Ap,Cl.v,Aq,A7,A4,dgV,dcV,Cl.d,D1,Lv.w,B3,LZ,seval])
   refine ⟨t,G,m,e,I,?_⟩
   unfold plF
   refine Ao.fr [0,1,2,3,4,5,6,7,8,9] [] hx AQ Am ?_ ?_
   ·simp only [hvv,LY,seval]
   ·simp only [hav,htv,dg,plH,plD,Gs.H,Ai,Al,Ac,Ap,Cl.v,Aq,A7,A4,dgV,dcV,Cl.d,D1,Lv.w,B3,LY,seval]
 | none =>
   have hG:=hG.2 hE
   have hD:=Akv ok.d G I.ok.w I.ok.b m e I.L.l o.cl t hE
   have hR:=Akr ok.r o.cl
   obtain ⟨p,hp,hpn,hrs,-⟩:=Rg hE
   rw [hp,Int.toNat_natCast] at hG hD
   have I':=Aoc I hpn hrs
   generalize G.rsv p=X at *
   generalize Akg e m ⟨4,G.rsB p,p,G.v p⟩=e' at *
   simp only [Gs.H,Ai,Al,Ac,B3] at hG
   simp only [dH,dH3,dgV,D1] at hD
   refine es 2000 ?_
   (simp only [Aku,Aqy,plG,Op.v,hk,hp,seval,plH,plD,Gs.H,Ai,Al,Ac,Ap,Cl.v,Aq,A7,A4,dgV,dcV,Cl.d,D1,Lv.w,B3,LZ,reduceCtorEq])
   have zz:=SN @Ai.eq_1 @Al.eq_1 @Ac.eq_1 @Ap.eq_1 @Aq.eq_1 @A7.eq_1 @A4.eq_1 @Cl.v.eq_1 @dg.eq_1;refine Xs [0,1,2,3] [0,1,2,3] (hG) ?_
   (simp only [plH,plD,Gs.H,Ai,Al,Ac,Ap,Cl.v,Aq,A7,A4,dgV,dcV,Cl.d,D1,Lv.w,B3,LZ,seval])
   have zz:=Db @dgV.eq_1 @dcV.eq_1 @Cl.d.eq_1 @D1.eq_1 @Lv.w.eq_1 @dg.eq_1;refine Xs [4,5,6,7] [4,5,6,7] (hD) ?_
   (simp only [plH,plD,Gs.H,Ai,Al,Ac,Ap,Cl.v,Aq,A7,A4,dgV,dcV,Cl.d,D1,Lv.w,B3,LZ,seval])
   rw [hp] at hR
   refine Bq (hR) ?_
   (simp only [plH,plD,Gs.H,Ai,Al,Ac,Ap,Cl.v,Aq,A7,A4,dgV,dcV,Cl.d,D1,Lv.w,B3,LZ,seval])
   refine ⟨t,X,m + 1,e',I',?_⟩
   unfold plF
   refine Ao.fr [0,1,2,3,4,5,6,507,8,9] [] hx AQ Am ?_ ?_
   ·simp only [hvv,LY,seval]
   ·simp only [hav,htv,dg,plH,plD,Gs.H,Ai,Al,Ac,Ap,Cl.v,Aq,A7,A4,dgV,dcV,Cl.d,D1,Lv.w,B3,LY,seval]
theorem Arm {M:Seat} {x:Ctx} {Q:List V→Hp→Nat→Prop} {k:List It} (hx:x.k=0) (av tv sv:V) (hav:∀ H m z,Az H m z av av) (htv:∀ H m z,Az H m z tv tv) (hvv:∀ H m z,Bi H m z sv sv) (R0:BitVec 64) (D:Nat) (l g:BitVec 64) (s:Dg) (i n:Nat) (t:BitVec 64) (G:Gs) (m:Nat) (e:Nat→Lv) (I:Pli R0 D l g s G m e) (ok:OkP3 M) (o:Op) (hk:o.kd=5):Bm M x Q (.code Aku :: .inv (plP M x R0 D l g s i n sv av tv) :: k) 11 (plG i n sv t) (plH G m e av tv ++ [(10,o.v)]):=by
 have hn64:=I.ok.w.hn
 have hn0:=I.ok.n0
 have w0:IntKind.i64.wrap ((G.n:Int) - 1)=(G.n:Int) - 1:=by rw [AY Aa]
 refine es 2000 ?_
 (simp only [Aku,Asx,plG,Op.v,hk,w0,seval,plH,plD,Gs.H,Ai,Al,Ac,Ap,Cl.v,Aq,A7,A4,dgV,dcV,Cl.d,D1,Lv.w,B3,LZ,reduceCtorEq])
 refine An (σ:=Nat × Gs × Nat × (Nat→Lv)) (fun y=>y.1≤64∧Pli R0 D l g s y.2.1 y.2.2.1 y.2.2.2) (fun y=>fr 513 [(2,.ptr 8 []),(6,.ptr 9 []),(8,.ptr 2 []),(9,.ptr 6 []),(10,W t),(11,.ptr 0 []),(13,.ptr 4 []),(31,.int .i64 ((y.1:Int) - 1)),(139,sv),(140,.int .i64 n),(141,.int .i64 i)]) (fun y=>plH y.2.1 y.2.2.1 y.2.2.2 av tv) (fun _=>10) (fun y=>y.1) (G.n,G,m,e) ⟨hn64,I⟩ ?_ ?_
 ·dsimp only
  refine Ao.fr [0,1,2,3,4,5,6,7,8,9] [] hx AQ Am ?_ ?_
  ·simp only [hvv,LY,seval]
  ·simp only [hav,htv,dg,plH,plD,Gs.H,Ai,Al,Ac,Ap,Cl.v,Aq,A7,A4,dgV,dcV,Cl.d,D1,Lv.w,B3,LY,seval]
 ·clear w0 hn64 hn0 I
  rintro ⟨q,G,m,e⟩ ⟨hq,I⟩
  dsimp only at hq I ⊢
  by_cases hq0:q=0
  ·have d0:(0≤(q:Int) - 1)=False:=eq_false Aa
   refine es 2000 ?_
   (simp only [d0,plH,plD,Gs.H,Ai,Al,Ac,Ap,Cl.v,Aq,A7,A4,dgV,dcV,Cl.d,D1,Lv.w,B3,LZ,seval])
   refine ⟨t,G,m,e,I,?_⟩
   unfold plF
   refine Ao.fr [0,1,2,3,4,5,6,7,8,9] [] hx AQ Am ?_ ?_
   ·simp only [hvv,LY,seval]
   ·simp only [hav,htv,dg,plH,plD,Gs.H,Ai,Al,Ac,Ap,Cl.v,Aq,A7,A4,dgV,dcV,Cl.d,D1,Lv.w,B3,LY,seval]
  have d0:(0≤(q:Int) - 1)=True:=eq_true Aa
  have w1:IntKind.i64.wrap ((q:Int) - 1 - 1)=((q - 1:Nat):Int) - 1:=AZ
  have hG:=DE ok.g G I.ok.w I.ok.b ((q:Int) - 1) t
  cases hE:G.rE ((q:Int) - 1) t with
  | some z =>
    have hG:=hG.1 z hE
    have hD:=Akw ok.d G I.ok.w I.ok.b m e I.L.l ((q:Int) - 1) t z hE
    have hR:=Akq ok.r ((q:Int) - 1) z
    simp only [Gs.H,Ai,Al,Ac,B3] at hG
    simp only [dH,dgV,D1] at hD
    refine es 2000 ?_
    (simp only [d0,plH,plD,Gs.H,Ai,Al,Ac,Ap,Cl.v,Aq,A7,A4,dgV,dcV,Cl.d,D1,Lv.w,B3,LZ,seval])
    have zz:=Ho @Ai.eq_1 @Al.eq_1 @Ac.eq_1 @Ap.eq_1 @Aq.eq_1 @A7.eq_1 @A4.eq_1 @Cl.v.eq_1 @Bt.eq_1 @dg.eq_1;refine Om [0,1,2,3] [0,1,2,3] (hG) ?_
    (simp only [Bt,plH,plD,Gs.H,Ai,Al,Ac,Ap,Cl.v,Aq,A7,A4,dgV,dcV,Cl.d,D1,Lv.w,B3,LZ,seval])
    have zz:=Db @dgV.eq_1 @dcV.eq_1 @Cl.d.eq_1 @D1.eq_1 @Lv.w.eq_1 @dg.eq_1;refine Om [4,5,6,7] [4,5,6,7] (hD) ?_
    (simp only [Bt,plH,plD,Gs.H,Ai,Al,Ac,Ap,Cl.v,Aq,A7,A4,dgV,dcV,Cl.d,D1,Lv.w,B3,LZ,seval])
    have zz:=@Bt.eq_1;refine SM [90] (hR) ?_
    (simp only [w1,Bt,plH,plD,Gs.H,Ai,Al,Ac,Ap,Cl.v,Aq,A7,A4,dgV,dcV,Cl.d,D1,Lv.w,B3,LZ,seval])
    refine ⟨(q - 1,G,m,e),by dsimp only;omega,I,by dsimp only;omega,?_⟩
    dsimp only
    refine Ao.fr [0,1,2,3,4,5,6,7,8,9] [] hx AQ Am ?_ ?_
    ·simp only [hvv,LY,seval]
    ·simp only [hav,htv,dg,plH,plD,Gs.H,Ai,Al,Ac,Ap,Cl.v,Aq,A7,A4,dgV,dcV,Cl.d,D1,Lv.w,B3,LY,seval]
  | none =>
    have hG:=hG.2 hE
    have hD:=Akv ok.d G I.ok.w I.ok.b m e I.L.l ((q:Int) - 1) t hE
    have hR:=Akr ok.r ((q:Int) - 1)
    obtain ⟨p,hp,hpn,hrs,-⟩:=Rg hE
    have hp':((q:Int) - 1).toNat=p:=Aa
    rw [hp'] at hG hD
    rw [hp] at hD
    have I':=Aoc I hpn hrs
    rw [← hp] at hD I'
    generalize G.rsv p=X at *
    generalize Akg e m ⟨4,G.rsB p,(q:Int) - 1,G.v p⟩=e' at *
    simp only [Gs.H,Ai,Al,Ac,B3] at hG
    simp only [dH,dH3,dgV,D1] at hD
    refine es 2000 ?_
    (simp only [d0,plH,plD,Gs.H,Ai,Al,Ac,Ap,Cl.v,Aq,A7,A4,dgV,dcV,Cl.d,D1,Lv.w,B3,LZ,seval])
    have zz:=SN @Ai.eq_1 @Al.eq_1 @Ac.eq_1 @Ap.eq_1 @Aq.eq_1 @A7.eq_1 @A4.eq_1 @Cl.v.eq_1 @dg.eq_1;refine Om [0,1,2,3] [0,1,2,3] (hG) ?_
    (simp only [plH,plD,Gs.H,Ai,Al,Ac,Ap,Cl.v,Aq,A7,A4,dgV,dcV,Cl.d,D1,Lv.w,B3,LZ,seval])
    have zz:=Db @dgV.eq_1 @dcV.eq_1 @Cl.d.eq_1 @D1.eq_1 @Lv.w.eq_1 @dg.eq_1;refine Om [4,5,6,7] [4,5,6,7] (hD) ?_
    (simp only [plH,plD,Gs.H,Ai,Al,Ac,Ap,Cl.v,Aq,A7,A4,dgV,dcV,Cl.d,D1,Lv.w,B3,LZ,seval])
    refine Ak (hR) ?_
    (simp only [w1,plH,plD,Gs.H,Ai,Al,Ac,Ap,Cl.v,Aq,A7,A4,dgV,dcV,Cl.d,D1,Lv.w,B3,LZ,seval])
    refine ⟨(q - 1,X,m + 1,e'),by dsimp only;omega,I',by dsimp only;omega,?_⟩
    dsimp only
    refine Ao.fr [0,1,2,3,4,5,6,170,8,9] [] hx AQ Am ?_ ?_
    ·simp only [hvv,LY,seval]
    ·simp only [hav,htv,dg,plH,plD,Gs.H,Ai,Al,Ac,Ap,Cl.v,Aq,A7,A4,dgV,dcV,Cl.d,D1,Lv.w,B3,LY,seval]
structure OkPt (M:Seat):Prop where
 g:OkGr M
 d:OkDg M
 l:OkLe M
 s:OkDl M
theorem As5 {M:Seat} {x:Ctx} {Q:List V→Hp→Nat→Prop} {k:List It} (hx:x.k=0) (av tv sv:V) (hav:∀ H m z,Az H m z av av) (htv:∀ H m z,Az H m z tv tv) (hvv:∀ H m z,Bi H m z sv sv) (R0:BitVec 64) (D:Nat) (l g:BitVec 64) (s:Dg) (i n:Nat) (t:BitVec 64) (G:Gs) (m:Nat) (e:Nat→Lv) (I:Pli R0 D l g s G m e) (ok:OkPt M) {J:List V→Hp→Nat→Prop} (hi:i < 60) (hJ:∀ A H N,plP M x R0 D l g s (i + 1) n sv av tv A H N→J A H N) :
 Bm M x Q (.code plT :: .blk 1 :: .code plI :: .inv J :: k) 10 (plF i n sv t) (plH G m e av tv):=by
 have hn0:=I.ok.n0
 have hLn:=De ok.g G.D G.l G.g G.s G.n
 have hSt:=L1 ok.g G hn0
 have hSd:=Amw ok.d G hn0
 have hLk:=H8 ok.l G.b G.i G.o G.n G.k
 have hSu:=fun kd=>Amd ok.s e m (by have:=I.L.l.lt;omega) kd (-1)
 have hk:=I.L.l.k
 have e0:(G.k=suE e 3 (-1) m - suE e 4 (-1) m)=True:=eq_true hk.symm
 rw [show (if (G.c 0).rs=true then (if (G.c 0).co=true then 2 else 1) else 0:Int)=G.sta from rfl] at hSd
 have w1:IntKind.i64.wrap ((i:Int) + 1)=((i + 1:Nat):Int):=AZ
 simp only [D1,Lv.w] at hSu
 refine es 2000 ?_
 (simp only [plT,plF,plH,plD,Gs.H,Ai,Al,Ac,Ap,Cl.v,Aq,A7,A4,dgV,dcV,Cl.d,D1,Lv.w,B3,LZ,seval])
 have zz:=GM @Ai.eq_1 @Al.eq_1 @Ac.eq_1 @Ap.eq_1 @dg.eq_1;refine L9 [0,1,2] [0] (hLn) ?_
 (simp only [plH,plD,Gs.H,Ai,Al,Ac,Ap,Cl.v,Aq,A7,A4,dgV,dcV,Cl.d,D1,Lv.w,B3,LZ,seval])
 have zz:=Db @Ai.eq_1 @Al.eq_1 @Ac.eq_1 @Ap.eq_1 @Cl.v.eq_1 @dg.eq_1;refine L9 [0,1,2] [0,1] (hSt) ?_
 (simp only [plH,plD,Gs.H,Ai,Al,Ac,Ap,Cl.v,Aq,A7,A4,dgV,dcV,Cl.d,D1,Lv.w,B3,LZ,seval])
 have zz:=Ka @dgV.eq_1 @dcV.eq_1 @Cl.d.eq_1 @dg.eq_1;refine L9 [4,5,6] [4,5] (hSd) ?_
 (simp only [plH,plD,Gs.H,Ai,Al,Ac,Ap,Cl.v,Aq,A7,A4,dgV,dcV,Cl.d,D1,Lv.w,B3,LZ,seval])
 have zz:=@Aq.eq_1;refine L9 [2,3] [2] (hLk) ?_
 (simp only [plH,plD,Gs.H,Ai,Al,Ac,Ap,Cl.v,Aq,A7,A4,dgV,dcV,Cl.d,D1,Lv.w,B3,LZ,seval])
 refine Bq (hSu 3) ?_
 (simp only [plH,plD,Gs.H,Ai,Al,Ac,Ap,Cl.v,Aq,A7,A4,dgV,dcV,Cl.d,D1,Lv.w,B3,LZ,seval])
 refine Bq (hSu 4) ?_
 (simp only [plI,e0,w1,plH,plD,Gs.H,Ai,Al,Ac,Ap,Cl.v,Aq,A7,A4,dgV,dcV,Cl.d,D1,Lv.w,B3,LZ,seval])
 refine hJ _ _ _ ⟨t,G,m,e,I,?_⟩
 unfold plF
 refine Ao.fr [0,1,2,3,4,5,6,7,8,9] [] hx AQ Am ?_ ?_
 ·simp only [hvv,LY,seval]
 ·simp only [hav,htv,dg,plH,plD,Gs.H,Ai,Al,Ac,Ap,Cl.v,Aq,A7,A4,dgV,dcV,Cl.d,D1,Lv.w,B3,LY,seval]
end Mv
