/- A part. -/
import Derived.Test.YtpcgkiecjakknaaGreatDoorDL
set_option linter.all false
set_option maxRecDepth 20000
set_option maxHeartbeats 16000000
namespace Mv
open Go
variable {M:Seat}
def Gs.mE (G:Gs) (a:Int) (df:Bool) (v:Dg) (pl:Int) (bd t:BitVec 64):Option Int :=
 if a < 0 ∨ (G.n:Int)≤a then some 4
 else if (G.c a.toNat).rs=true then some 43
 else Zs G a.toNat df v pl bd t (Ia (G.c a.toNat).pos) (Wt (G.c a.toNat).pos)
def Gs.mT (G:Gs) (a:Int) (df:Bool) (v:Dg) (pl:Int) (bd t:BitVec 64):Gs :=
 G.mv (IE G a.toNat df v pl t (Ia (G.c a.toNat).pos) (Wt (G.c a.toNat).pos)) pl.toNat bd
theorem HG (ok:OkGr M) (G:Gs) (w:G.wf) (a:Int) (df:Bool) (v:Dg) (pl:Int) (bd t:BitVec 64) (e:Int) (he:G.mE a df v pl bd t=some e) :
 Ag M 110 [.ptr 0 [],.int .i64 a,.bool df,dg v,.int .i64 pl,W bd,W t] G.H 4 (Q3 (Ah (.int .i64 0) (.ifc 145 (.ptr 4 []))) (G.H ++ [(4,Bt a e)]) 5):=by
 have hD:=w.hD
 have hn:=w.hn
 have hME:=Pw ok.t.s.v G
 have hpl:=w.pls
 have hpr:=fun {a}=>Hk (a:=a) w.prs
 have hr:=w.hr
 clear w
 unfold Gs.mE at he
 refine Ab ok.t.s.v.g.n.k110 rfl fun x hx=>?_
 by_cases h1:a < 0 ∨ (G.n:Int)≤a
 ·rw [if_pos h1] at he
  cases he
  have hF:=JO ok.t.s.v.g G.D G.l G.g G.s G.n a h1
  obtain ⟨D,l,g,s,n,c,b,ii,o,kk,vv,gv⟩:=G
  dsimp only at *
  refine es 2000 ?_;(simp only [P9,Oz,Gs.H,Ai,Al,Ac,Ap,Aq,A7,A4,Cl.v,LZ,seval])
  have zz:=aq7 @Ai.eq_1 @Al.eq_1 @Ac.eq_1 @Cl.v.eq_1 @Cl.zero.eq_1 @Bt.eq_1 @dg.eq_1;refine Om [0,1,2] [0] (hF) ?_
  (simp only [AH,Ai,Al,Ac,Cl.v,Cl.zero,Bt,seval])
  refine Ar.mk hx [0,1,2,3,84] [] (Ah (.int .i64 0) (.ifc 145 (.ptr 4 []))) _ 5 Am (by (simp only [CU,seval])) (by simp only [LV,Ah,LY,seval]) ?_ ⟨rfl,rfl,rfl⟩
  simp only [Gs.H,Ai,Al,Ac,Ap,Cl.v,Aq,A7,A4,Bt,dg,B3,LY,seval]
 rw [if_neg h1] at he
 obtain ⟨p,rfl⟩:∃ p:Nat,a=p:=⟨a.toNat,by omega⟩
 have hp:p < G.n:=Aa
 rw [Int.toNat_natCast] at he
 cases hrs:(G.c p).rs with
 | true =>
   rw [if_pos hrs] at he
   cases he
   have hF:=JT ok.t.s.v.g G.D G.l G.g G.s G.n G.c p hp hrs
   obtain ⟨D,l,g,s,n,c,b,ii,o,kk,vv,gv⟩:=G
   dsimp only at *
   refine es 2000 ?_;(simp only [P9,Oz,Gs.H,Ai,Al,Ac,Ap,Aq,A7,A4,Cl.v,LZ,seval])
   have zz:=XK @Ai.eq_1 @Al.eq_1 @Ac.eq_1 @Ap.eq_1 @Cl.v.eq_1 @Cl.zero.eq_1 @Bt.eq_1 @dg.eq_1;refine Om [0,1,2] [0,1] (hF) ?_
   (simp only [AH,Ai,Al,Ac,Ap,Cl.v,Cl.zero,Bt,seval])
   refine Ar.mk hx [0,1,2,3,84] [] (Ah (.int .i64 0) (.ifc 145 (.ptr 4 []))) _ 5 Am (by (simp only [CU,seval])) (by simp only [LV,Ah,LY,seval]) ?_ ⟨rfl,rfl,rfl⟩
   simp only [Gs.H,Ai,Al,Ac,Ap,Cl.v,Aq,A7,A4,Bt,dg,B3,LY,seval]
 | false =>
   rw [if_neg (by rw [hrs];simp)] at he
   have hF:=FT ok.t.s.v.g G.D G.l G.g G.s G.n G.c p hp hrs
   obtain ⟨k,i,hk,hi,hpos⟩:=hpl p hp
   rw [hpos,Cr Aa hi,Ej Aa hi] at he
   have hM:=hME p df v pl bd t k i Aa hr hp Aa hi hpos (hpr hp) e he
   have hA:=Fn ok.t.s.v.g p e
   simp only [Sw,Cl.v,Ac,hrs] at hM
   obtain ⟨D,l,g,s,n,c,b,ii,o,kk,vv,gv⟩:=G
   dsimp only at *
   simp only [Gs.H,Ai,Al,Ac] at hM
   refine es 2000 ?_;(simp only [P9,Oz,Gs.H,Ai,Al,Ac,Ap,Aq,A7,A4,Cl.v,LZ,seval])
   have zz:=Db @Ai.eq_1 @Al.eq_1 @Ac.eq_1 @Ap.eq_1 @Cl.v.eq_1 @dg.eq_1;refine Bw [0,1,2] [0,1] (hF) ?_
   (simp only [AH,Ai,Al,Ac,Ap,Cl.v,hrs,seval])
   have zz:=SN @Ai.eq_1 @Al.eq_1 @Ac.eq_1 @Ap.eq_1 @Aq.eq_1 @A7.eq_1 @A4.eq_1 @Cl.v.eq_1 @dg.eq_1;refine Bw [0,1,2,3] [0,1,2,3] (hM) ?_
   (simp only [AH,Ai,Al,Ac,Ap,Aq,A7,A4,Cl.v,seval])
   have zz:=@Bt.eq_1;refine Kb (hA) ?_
   (simp only [AH,Bt,seval])
   refine Ar.mk hx [0,1,2,3,532] [] (Ah (.int .i64 0) (.ifc 145 (.ptr 4 []))) _ 5 Am (by (simp only [CU,seval])) (by simp only [LV,Ah,LY,seval]) ?_ ⟨rfl,rfl,rfl⟩
   simp only [Gs.H,Ai,Al,Ac,Ap,Cl.v,Aq,A7,A4,Bt,dg,hrs,B3,LY,seval]
theorem Gs.mE_in {G:Gs} {a:Int} {df:Bool} {v:Dg} {pl:Int} {bd t:BitVec 64} (h:G.mE a df v pl bd t=none):∃ p:Nat,a=p∧p < G.n∧(G.c p).rs=false∧Zs G p df v pl bd t (Ia (G.c p).pos) (Wt (G.c p).pos)=none:=by
 unfold Gs.mE at h
 by_cases h1:a < 0 ∨ (G.n:Int)≤a
 ·rw [if_pos h1] at h;cases h
 rw [if_neg h1] at h
 obtain ⟨p,rfl⟩:∃ p:Nat,a=p:=⟨a.toNat,by omega⟩
 rw [Int.toNat_natCast] at h
 cases hrs:(G.c p).rs with
 | true=>rw [if_pos hrs] at h;cases h
 | false=>rw [if_neg (by rw [hrs];simp)] at h;exact ⟨p,rfl,by omega,hrs,h⟩
theorem HF (ok:OkGr M) (G:Gs) (w:G.wf) (a:Int) (df:Bool) (v:Dg) (pl:Int) (bd t:BitVec 64) (he:G.mE a df v pl bd t=none) :
 Ag M 110 [.ptr 0 [],.int .i64 a,.bool df,dg v,.int .i64 pl,W bd,W t] G.H 4 (Q3 (Ah (.int .i64 (G.n:Int)) .nili) ((G.mT a df v pl bd t).H2) 6):=by
 obtain ⟨p,rfl,hp,hrs,he⟩:=Gs.mE_in he
 have hD:=w.hD
 have hn:=w.hn
 obtain ⟨k,i,hk,hi,hpos⟩:=w.pls p hp
 have hM:=OE ok.t.s.v G p df v pl bd t k i Aa w.hr hp Aa hi hpos (Hk w.prs hp) (by rw [hpos,Cr Aa hi,Ej Aa hi] at he;exact he)
 have hF:=FT ok.t.s.v.g G.D G.l G.g G.s G.n G.c p hp hrs
 have hA:=FB ok.t.s.v.g p
 have hT:G.mT p df v pl bd t=G.mv (IE G p df v pl t k i) pl.toNat bd:=by rw [Gs.mT,Int.toNat_natCast,hpos,Cr Aa hi,Ej Aa hi]
 rw [hT]
 clear w he hT
 unfold Gs.mv IE clN at *
 simp only [Gs.H2,Sw,Cl.v,Ac,hrs] at hM ⊢
 generalize Ks k i df=q at *
 generalize YI (CQ G.c (G.c p) + t - (G.c p).at') (G.l - G.g)=u at *
 obtain ⟨D,l,g,s,n,c,b,ii,o,kk,vv,gv⟩:=G
 dsimp only at *
 simp only [Gs.H,Ai,Al,Ac] at hM
 refine Ab ok.t.s.v.g.n.k110 rfl fun x hx=>?_
 refine es 2000 ?_;(simp only [P9,Oz,Gs.H,Ai,Al,Ac,Ap,Aq,A7,A4,Cl.v,LZ,seval])
 have zz:=Db @Ai.eq_1 @Al.eq_1 @Ac.eq_1 @Ap.eq_1 @Cl.v.eq_1 @dg.eq_1;refine Bw [0,1,2] [0,1] (hF) ?_
 (simp only [AH,Ai,Al,Ac,Ap,Cl.v,hrs,seval])
 have zz:=SN @Ai.eq_1 @Al.eq_1 @Ac.eq_1 @Ap.eq_1 @Aq.eq_1 @A7.eq_1 @A4.eq_1 @Cl.v.eq_1 @dg.eq_1;refine Bw [0,1,2,3] [0,1,2,3] (hM) ?_
 (simp only [AH,Ai,Al,Ac,Ap,Aq,A7,A4,Cl.v,seval])
 refine Ak (hA) ?_
 (simp only [AH,seval])
 refine Ar.mk hx [0,1,2,3,388,389] [] (Ah (.int .i64 n) .nili) _ 6 Am (by (simp only [CU,seval])) (by simp only [LV,Ah,LY,seval]) ?_ ⟨rfl,rfl,rfl⟩
 simp only [Ai,Al,Ac,Ap,Cl.v,Aq,A7,A4,dg,LY,seval]
 (repeat' apply And.intro)
 all_goals
  intro j hj
  by_cases h:j < n
  ·simp only [h,if_true,LY,seval]
  ·simp only [h,if_false,LY,seval]
def Gs.tE (G:Gs) (vf:Dg→Dg × Option Int) (a:Int) (df:Bool) (pl:Int) (t:BitVec 64):Option Int :=
 if a < 0 ∨ (G.n:Int)≤a then some 4
 else if (G.c a.toNat).rs=true then some 43
 else G.stE vf a.toNat df pl t
def Gs.tT (G:Gs) (a:Int) (pl:Int):Gs:={ G with c:=fun j=>if j=a.toNat then { G.c a.toNat with st:=true,by':=pl } else G.c j }
theorem JK (ok:OkGr M) (G:Gs) (w:G.wf) (vf:Dg→Dg × Option Int) (R:Dg) (hd:Hd) (L:List Pf) (pr:Pr)
 (hV:∀ C,Ag M 98 [dg C,BI R hd L pr] [] 0 (Q3 (Ah (dg (vf C).1) (B7 (vf C).2)) [] 0)) (a:Int) (df:Bool) (pl:Int) (t:BitVec 64) :
 (∀ e,G.tE vf a df pl t=some e→Ag M 114 [.ptr 0 [],.int .i64 a,.bool df,BI R hd L pr,.int .i64 pl,W t] G.H 4 (Q3 (.ifc 145 (.ptr 4 [])) (G.H ++ [(4,Bt a e)]) 5)) ∧
 (G.tE vf a df pl t=none→Ag M 114 [.ptr 0 [],.int .i64 a,.bool df,BI R hd L pr,.int .i64 pl,W t] G.H 4 (Q3 .nili ((G.tT a pl).H) 4)):=by
 have hD:=w.hD
 have hn:=w.hn
 unfold Gs.tE
 by_cases h1:a < 0 ∨ (G.n:Int)≤a
 ·rw [if_pos h1]
  refine ⟨fun e he=>?_,fun h=>by cases h⟩
  cases he
  have hF:=JO ok.t.s.v.g G.D G.l G.g G.s G.n a h1
  clear w
  obtain ⟨D,l,g,s,n,c,b,ii,o,kk,vv,gv⟩:=G
  dsimp only at *
  refine Ab ok.t.s.v.g.n.k114 rfl fun x hx=>?_
  refine es 2000 ?_;(simp only [UF,Uz,Gs.H,Ai,Al,Ac,Ap,Aq,A7,A4,Cl.v,BI,Hd.v,CR,seval])
  have zz:=aq7 @Ai.eq_1 @Al.eq_1 @Ac.eq_1 @Cl.v.eq_1 @Cl.zero.eq_1 @Bt.eq_1 @dg.eq_1;refine Om [0,1,2] [0] (hF) ?_
  (simp only [AH,Ai,Al,Ac,Cl.v,Cl.zero,Bt,seval])
  refine Ar.mk hx [0,1,2,3,68] [] (.ifc 145 (.ptr 4 [])) _ 5 Am (by (simp only [CU,seval])) (by simp only [LV,Ah,LY,seval]) ?_ ⟨rfl,rfl,rfl⟩
  simp only [Gs.H,Ai,Al,Ac,Ap,Cl.v,Aq,A7,A4,Bt,dg,B3,LY,seval]
 rw [if_neg h1]
 obtain ⟨p,rfl⟩:∃ p:Nat,a=p:=⟨a.toNat,by omega⟩
 have hp:p < G.n:=Aa
 rw [Int.toNat_natCast]
 cases hrs:(G.c p).rs with
 | true =>
   rw [if_pos rfl]
   refine ⟨fun e he=>?_,fun h=>by cases h⟩
   cases he
   have hF:=JT ok.t.s.v.g G.D G.l G.g G.s G.n G.c p hp hrs
   clear w
   obtain ⟨D,l,g,s,n,c,b,ii,o,kk,vv,gv⟩:=G
   dsimp only at *
   refine Ab ok.t.s.v.g.n.k114 rfl fun x hx=>?_
   refine es 2000 ?_;(simp only [UF,Uz,Gs.H,Ai,Al,Ac,Ap,Aq,A7,A4,Cl.v,BI,Hd.v,CR,seval])
   have zz:=XK @Ai.eq_1 @Al.eq_1 @Ac.eq_1 @Ap.eq_1 @Cl.v.eq_1 @Cl.zero.eq_1 @Bt.eq_1 @dg.eq_1;refine Om [0,1,2] [0,1] (hF) ?_
   (simp only [AH,Ai,Al,Ac,Ap,Cl.v,Cl.zero,Bt,seval])
   refine Ar.mk hx [0,1,2,3,68] [] (.ifc 145 (.ptr 4 [])) _ 5 Am (by (simp only [CU,seval])) (by simp only [LV,Ah,LY,seval]) ?_ ⟨rfl,rfl,rfl⟩
   simp only [Gs.H,Ai,Al,Ac,Ap,Cl.v,Aq,A7,A4,Bt,dg,B3,LY,seval]
 | false =>
   rw [if_neg Am]
   have hF:=FT ok.t.s.v.g G.D G.l G.g G.s G.n G.c p hp hrs
   have hS:=SH ok.t G w vf R hd L pr hV p hp df pl t
   generalize G.stE vf p df pl t=E at *
   clear w hV
   obtain ⟨D,l,g,s,n,c,b,ii,o,kk,vv,gv⟩:=G
   dsimp only [Gs.tT] at *
   simp only [Int.toNat_natCast]
   simp only [Cl.v,Ac,hrs] at hS
   simp only [Gs.H,Ai,Al,Ac] at hS
   simp only [BI,Hd.v,AM] at hS
   have hA:=fun e=>Fn ok.t.s.v.g p e
   cases E with
   | some e =>
     refine ⟨fun e' he=>?_,fun h=>by cases h⟩
     cases he
     simp only [Aw] at hS
     refine Ab ok.t.s.v.g.n.k114 rfl fun x hx=>?_
     refine es 2000 ?_;(simp only [UF,Uz,Gs.H,Ai,Al,Ac,Ap,Aq,A7,A4,Cl.v,BI,Hd.v,CR,seval])
     have zz:=Db @Ai.eq_1 @Al.eq_1 @Ac.eq_1 @Ap.eq_1 @Cl.v.eq_1 @dg.eq_1;refine Bw [0,1,2] [0,1] (hF) ?_
     (simp only [AH,Ai,Al,Ac,Ap,Cl.v,hrs,seval])
     have zz:=Ho @Ai.eq_1 @Al.eq_1 @Ac.eq_1 @Ap.eq_1 @Aq.eq_1 @A7.eq_1 @A4.eq_1 @Cl.v.eq_1 @dg.eq_1 Fs;refine Bw [0,1,2,3] [0,1,2,3] (hS) ?_
     (simp only [AH,Ai,Al,Ac,Ap,Aq,A7,A4,Cl.v,seval])
     have zz:=@Bt.eq_1;refine Kb (hA e) ?_
     (simp only [AH,Bt,seval])
     refine Ar.mk hx [0,1,2,3,420] [] (.ifc 145 (.ptr 4 [])) _ 5 Am (by (simp only [CU,seval])) (by simp only [LV,Ah,LY,seval]) ?_ ⟨rfl,rfl,rfl⟩
     simp only [Gs.H,Ai,Al,Ac,Ap,Cl.v,Aq,A7,A4,Bt,dg,hrs,B3,LY,seval]
   | none =>
     refine ⟨fun e' he=>(by cases he),fun _=>?_⟩
     simp only [B0] at hS
     have d2:((p:Int) < (n:Int))=True:=eq_true Aa
     have d3:(0≤(p:Int))=True:=eq_true Aa
     refine Ab ok.t.s.v.g.n.k114 rfl fun x hx=>?_
     refine es 2000 ?_;(simp only [UF,Uz,Gs.H,Ai,Al,Ac,Ap,Aq,A7,A4,Cl.v,BI,Hd.v,CR,seval])
     have zz:=Db @Ai.eq_1 @Al.eq_1 @Ac.eq_1 @Ap.eq_1 @Cl.v.eq_1 @dg.eq_1;refine Bw [0,1,2] [0,1] (hF) ?_
     (simp only [AH,Ai,Al,Ac,Ap,Cl.v,hrs,seval])
     have zz:=Ho @Ai.eq_1 @Al.eq_1 @Ac.eq_1 @Ap.eq_1 @Aq.eq_1 @A7.eq_1 @A4.eq_1 @Cl.v.eq_1 @dg.eq_1 Fs;refine Bw [0,1,2,3] [0,1,2,3] (hS) ?_
     (simp only [AH,Ai,Al,Ac,Ap,Aq,A7,A4,Cl.v,d2,d3,seval])
     repeat refine sd ?_
     refine Ar.mk hx [0,1,2,3] [] .nili _ 4 Am (by (simp only [CU,seval])) (by simp only [LV,Ah,LY,seval]) ?_ ⟨rfl,rfl,rfl⟩
     simp only [Gs.H,Ai,Al,Ac,Ap,Cl.v,Aq,A7,A4,dg,LY,seval]
     intro j hj
     by_cases h:j=p
     ·subst h
      simp only [if_true,hrs,LY,seval]
     ·simp only [h,if_false,LY,seval]
def Gs.rE (G:Gs) (a:Int) (t:BitVec 64):Option Int :=
 if a < 0 ∨ (G.n:Int)≤a then some 4
 else if (G.c a.toNat).rs=true then some 41
 else G.rsE a.toNat t
structure Gs.bd (G:Gs):Prop where
 bond:∀ j,j < G.n→(G.c j).bond=j∧G.gv j=(G.c j).rs
 by':∀ j,j < G.n→∃ p:Nat,p < 8∧(G.c j).by'=p
 pl:∀ j,j < G.n→∃ p:Nat,p < 8∧(G.c j).pl=p
theorem Gs.rsB_lt {G:Gs} (h:G.bd) {a:Nat} (ha:a < G.n):∃ p:Nat,p < 8∧G.rsB a=p:=by
 unfold Gs.rsB
 cases hb:Cc G.c a G.n with
 | none=>exact h.by' a ha
 | some j =>
   dsimp only
   split
   ·exact h.by' a ha
   ·exact h.pl j (Gi _ _ _ _ hb).1
theorem DE (ok:OkGr M) (G:Gs) (w:G.wf) (wb:G.bd) (a:Int) (t:BitVec 64) :
 (∀ e,G.rE a t=some e→Ag M 115 [.ptr 0 [],.int .i64 a,W t] G.H 4 (Q3 (.ifc 145 (.ptr 4 [])) (G.H ++ [(4,Bt a e)]) 5)) ∧
 (G.rE a t=none→Ag M 115 [.ptr 0 [],.int .i64 a,W t] G.H 4 (Q3 .nili ((G.rsv a.toNat).H) 4)):=by
 have hD:=w.hD
 have hn:=w.hn
 have hA:=fun e=>Fn ok.t.s.v.g a e
 have hA0:=FB ok.t.s.v.g a
 have key:∀ e,(Ag M 252 [.ptr 0 [],.int .i64 a,W t] G.H 4 (Q3 (er e) G.H 4))→Ag M 115 [.ptr 0 [],.int .i64 a,W t] G.H 4 (Q3 (.ifc 145 (.ptr 4 [])) (G.H ++ [(4,Bt a e)]) 5):=fun e hR=>by
  have hA:=hA e
  clear hA0 w wb
  obtain ⟨D,l,g,s,n,c,b,ii,o,kk,vv,gv⟩:=G
  dsimp only at *
  simp only [Gs.H,Ai,Al,Ac] at hR
  refine Ab ok.t.s.v.g.n.k115 rfl fun x hx=>?_
  refine es 2000 ?_;(simp only [Aaz,Abm,Gs.H,Ai,Al,Ac,Ap,Aq,A7,A4,Cl.v,LZ,seval])
  have zz:=SN @Ai.eq_1 @Al.eq_1 @Ac.eq_1 @Ap.eq_1 @Aq.eq_1 @A7.eq_1 @A4.eq_1 @Cl.v.eq_1 @dg.eq_1;refine Bw [0,1,2,3] [0,1,2,3] (hR) ?_
  (simp only [Ai,Al,Ac,Ap,Aq,A7,A4,Cl.v,LZ,seval])
  have zz:=@Bt.eq_1;refine Kb (hA) ?_
  (simp only [Bt,LZ,seval])
  refine Ar.mk hx [0,1,2,3,132] [] (.ifc 145 (.ptr 4 [])) _ 5 Am (by (simp only [CU,seval])) (by simp only [LV,Ah,LY,seval]) ?_ ⟨rfl,rfl,rfl⟩
  simp only [Gs.H,Ai,Al,Ac,Ap,Cl.v,Aq,A7,A4,Bt,dg,B3,LY,seval]
 unfold Gs.rE
 by_cases h1:a < 0 ∨ (G.n:Int)≤a
 ·rw [if_pos h1]
  refine ⟨fun e he=>?_,fun h=>by cases h⟩
  cases he
  refine key 4 ?_
  clear key hA hA0 w wb
  obtain ⟨D,l,g,s,n,c,b,ii,o,kk,vv,gv⟩:=G
  dsimp only at *
  refine Ab ok.k252 rfl fun x hx=>?_
  by_cases h0:a < 0
  ·refine es 2000 ?_;(simp only [UR,T7,Gs.H,Ai,Al,Ac,Ap,Aq,A7,A4,Cl.v,h0,LZ,seval])
   have zz:=Bb @dg.eq_1 @Cl.v.eq_1;exact Bf hx [0,1,2,3] ⟨rfl,rfl,rfl⟩
  ·have h1:(n:Int)≤a:=h1.resolve_left h0
   refine es 2000 ?_;(simp only [UR,T7,Gs.H,Ai,Al,Ac,Ap,Aq,A7,A4,Cl.v,h0,h1,LZ,seval])
   have zz:=Bb @dg.eq_1 @Cl.v.eq_1;exact Bf hx [0,1,2,3] ⟨rfl,rfl,rfl⟩
 rw [if_neg h1]
 obtain ⟨p,rfl⟩:∃ p:Nat,a=p:=⟨a.toNat,by omega⟩
 have hp:p < G.n:=Aa
 rw [Int.toNat_natCast]
 cases hrs:(G.c p).rs with
 | true =>
   rw [if_pos rfl]
   refine ⟨fun e he=>?_,fun h=>by cases h⟩
   cases he
   refine key 41 ?_
   clear key hA hA0 w wb
   obtain ⟨D,l,g,s,n,c,b,ii,o,kk,vv,gv⟩:=G
   dsimp only at *
   have d0:((p:Int) < 0)=False:=eq_false Aa
   have d1:((n:Int)≤(p:Int))=False:=eq_false Aa
   have d2:((p:Int) < (n:Int))=True:=eq_true Aa
   have d3:(0≤(p:Int))=True:=eq_true Aa
   refine Ab ok.k252 rfl fun x hx=>?_
   refine es 2000 ?_;(simp only [UR,T7,Gs.H,Ai,Al,Ac,Ap,Aq,A7,A4,Cl.v,d0,d1,d2,d3,hrs,LZ,seval])
   repeat refine sd ?_
   have zz:=Bb @dg.eq_1 @Cl.v.eq_1;exact Bf hx [0,1,2,3] ⟨rfl,rfl,rfl⟩
 | false =>
   rw [if_neg Am]
   have hR:=L3 ok G w p hp hrs (wb.bond p hp).1 ((wb.bond p hp).2.trans hrs) (G.rsB_lt wb hp) t
   cases hE:G.rsE p t with
   | some e =>
     rw [hE] at hR
     refine ⟨fun e' he=>?_,fun h=>by cases h⟩
     cases he
     exact key e hR
   | none =>
     rw [hE] at hR
     refine ⟨fun e' he=>(by cases he),fun _=>?_⟩
     clear key hA w wb
     simp only [B0] at hR
     generalize G.rsv p=X at *
     obtain ⟨D,l,g,s,n,c,b,ii,o,kk,vv,gv⟩:=G
     obtain ⟨D',l',g',s',n',c',b',ii',o',kk',vv',gv'⟩:=X
     dsimp only at *
     simp only [Gs.H,Ai,Al,Ac] at hR
     refine Ab ok.t.s.v.g.n.k115 rfl fun x hx=>?_
     refine es 2000 ?_;(simp only [Aaz,Abm,Gs.H,Ai,Al,Ac,Ap,Aq,A7,A4,Cl.v,LZ,seval])
     have zz:=SN @Ai.eq_1 @Al.eq_1 @Ac.eq_1 @Ap.eq_1 @Aq.eq_1 @A7.eq_1 @A4.eq_1 @Cl.v.eq_1 @dg.eq_1;refine Bw [0,1,2,3] [0,1,2,3] (hR) ?_
     (simp only [Ai,Al,Ac,Ap,Aq,A7,A4,Cl.v,LZ,seval])
     refine Ak (hA0) ?_
     (simp only [LZ,seval])
     have zz:=Bb @dg.eq_1 @Cl.v.eq_1;exact Bf hx [0,1,2,3] ⟨rfl,rfl,rfl⟩
theorem BW (ok:OkGr M) (d:Int) (l g:BitVec 64) (s:Dg) (n:Nat) (c:Nat→Cl) (a:Nat) (ha:a < n) :
 Ag M 111 [.ptr 0 [],.int .i64 a] [(0,Ai d l g s (.ptr 2 []) (.sl 1 [] 0 n 42)),(1,Ap n c)] 3 (Q3 (Ah (c a).v .nili) [(0,Ai d l g s (.ptr 2 []) (.sl 1 [] 0 n 42)),(1,Ap n c)] 3):=by
 have d0:((a:Int) < 0)=False:=eq_false Aa
 have d1:((n:Int)≤(a:Int))=False:=eq_false Aa
 have d2:((a:Int) < (n:Int))=True:=eq_true Aa
 have d3:(0≤(a:Int))=True:=eq_true Aa
 refine Ab ok.t.s.v.g.n.k111 rfl fun x hx=>?_
 refine es 2000 ?_;(simp only [V3,U9,Ai,Al,Ac,Ap,Cl.v,d0,d1,d2,d3,LZ,seval])
 repeat refine sd ?_
 have zz:=Ka @Ah.eq_1 @dg.eq_1 @Cl.v.eq_1 @Ap.eq_1;exact Bf hx [0,1,2] ⟨rfl,rfl,rfl⟩
theorem MZ (ok:OkGr M) (d:Int) (l g:BitVec 64) (s:Dg) (n:Nat) (a:Int) (ha:a < 0 ∨ (n:Int)≤a) :
 Ag M 111 [.ptr 0 [],.int .i64 a] [(0,Ai d l g s (.ptr 2 []) (.sl 1 [] 0 n 42))] 3 (Q3 (Ah Cl.zero.v (er 4)) [(0,Ai d l g s (.ptr 2 []) (.sl 1 [] 0 n 42))] 3):=by
 refine Ab ok.t.s.v.g.n.k111 rfl fun x hx=>?_
 by_cases h0:a < 0
 ·refine es 2000 ?_;(simp only [V3,U9,Ai,Al,Ac,h0,LZ,seval])
  have zz:=GM @Ah.eq_1 @dg.eq_1 @Cl.v.eq_1 @Cl.zero.eq_1 @Ac.eq_1;exact Bf hx [0,1,2] ⟨rfl,rfl,rfl⟩
 ·have h1:(n:Int)≤a:=ha.resolve_left h0
  refine es 2000 ?_;(simp only [V3,U9,Ai,Al,Ac,h0,h1,LZ,seval])
  have zz:=GM @Ah.eq_1 @dg.eq_1 @Cl.v.eq_1 @Cl.zero.eq_1 @Ac.eq_1;exact Bf hx [0,1,2] ⟨rfl,rfl,rfl⟩
theorem De (ok:OkGr M) (d:Int) (l g:BitVec 64) (s:Dg) (n:Nat) :
 Ag M 117 [.ptr 0 []] [(0,Ai d l g s (.ptr 2 []) (.sl 1 [] 0 n 42))] 3 (Q3 (.int .i64 n) [(0,Ai d l g s (.ptr 2 []) (.sl 1 [] 0 n 42))] 3):=by
 refine Ab ok.t.s.v.g.n.k117 rfl fun x hx=>?_
 refine es 2000 ?_;(simp only [Adn,Acd,Ai,Al,Ac,LZ,seval])
 have zz:=@dg.eq_1;exact Bf hx [0,1,2] ⟨rfl,rfl,rfl⟩
theorem EU (ok:OkGr M) (d:Int) (l g:BitVec 64) (s:Dg) (n:Nat) :
 Ag M 119 [.ptr 0 []] [(0,Ai d l g s (.ptr 2 []) (.sl 1 [] 0 n 42))] 3 (Q3 (Al d l g s) [(0,Ai d l g s (.ptr 2 []) (.sl 1 [] 0 n 42))] 3):=by
 refine Ab ok.t.s.v.g.n.k119 rfl fun x hx=>?_
 refine es 2000 ?_;(simp only [Ag1,Afw,Ai,Al,Ac,LZ,seval])
 have zz:=C4 @dg.eq_1 @Al.eq_1 @Ac.eq_1;exact Bf hx [0,1,2] ⟨rfl,rfl,rfl⟩
def Gs.sta (G:Gs):Int:=if (G.c 0).rs=true then (if (G.c 0).co=true then 2 else 1) else 0
theorem L1 (ok:OkGr M) (G:Gs) (hn:0 < G.n) :
 Ag M 118 [.ptr 0 []] [(0,Ai G.D G.l G.g G.s (.ptr 2 []) (.sl 1 [] 0 G.n 42)),(1,Ap G.n G.c)] 3 (Q3 (.int .i64 G.sta) [(0,Ai G.D G.l G.g G.s (.ptr 2 []) (.sl 1 [] 0 G.n 42)),(1,Ap G.n G.c)] 3):=by
 obtain ⟨D,l,g,s,n,c,b,ii,o,kk,vv,gv⟩:=G
 dsimp only [Gs.sta] at *
 have d2:((0:Int) < (n:Int))=True:=eq_true Aa
 refine Ab ok.t.s.v.g.n.k118 rfl fun x hx=>?_
 cases hrs:(c 0).rs <;> cases hco:(c 0).co
 all_goals
  refine es 2000 ?_;(simp only [Ace,Ab9,Ai,Al,Ac,Ap,Cl.v,d2,hrs,hco,LZ,seval])
  repeat refine sd ?_
  have zz:=Bb @dg.eq_1 @Cl.v.eq_1;exact Bf hx [0,1,2] ⟨rfl,rfl,rfl⟩
theorem Me {G:Gs} {a:Nat} {df:Bool} {v:Dg} {pl:Int} {bd t:BitVec 64} {k i:Nat} (h:Zs G a df v pl bd t k i=none) :
 k < G.D∧¬ (df=true∧i + 1=2 ^ k)∧bd=BitVec.ofNat 64 (k + 2)∧(¬ ∃ j,j < G.n∧M4 (Sw a v pl) (Ks k i df) (G.c j))∧¬ Gy (G.c a).us (G.c a).at' (CQ G.c (G.c a)) t
  ∧ ¬ G.l≤CQ G.c (G.c a) + t - (G.c a).at'∧G.n < 64∧(∃ p:Nat,p < 8∧pl=p)∧¬ G.b pl.toNat < bd:=by
 unfold Zs at h
 by_cases h1:G.D≤k
 ·rw [if_pos h1] at h;cases h
 rw [if_neg h1] at h
 by_cases h2:df=true∧i + 1=2 ^ k
 ·rw [if_pos h2] at h;cases h
 rw [if_neg h2] at h
 by_cases h3:bd=BitVec.ofNat 64 (k + 2)
 case neg=>rw [if_pos h3] at h;cases h
 rw [if_neg (fun q=>q h3)] at h
 by_cases h4:∃ j,j < G.n∧M4 (Sw a v pl) (Ks k i df) (G.c j)
 ·rw [if_pos h4] at h;cases h
 rw [if_neg h4] at h
 by_cases h5:Gy (G.c a).us (G.c a).at' (CQ G.c (G.c a)) t
 ·rw [if_pos h5] at h;cases h
 rw [if_neg h5] at h
 by_cases h6:G.l≤CQ G.c (G.c a) + t - (G.c a).at'
 ·rw [if_pos h6] at h;cases h
 rw [if_neg h6] at h
 by_cases h7:64≤G.n
 ·rw [if_pos h7] at h;cases h
 rw [if_neg h7] at h
 by_cases h8:pl < 0 ∨ 8≤pl
 ·rw [if_pos h8] at h;cases h
 rw [if_neg h8] at h
 by_cases h9:G.b pl.toNat < bd
 ·rw [if_pos h9] at h;cases h
 exact ⟨by omega,h2,h3,h4,h5,h6,by omega,⟨pl.toNat,by omega,by omega⟩,h9⟩
theorem Acc {G:Gs} {vf:Dg→Dg × Option Int} {a:Nat} {df:Bool} {pl:Int} {t:BitVec 64} (h:G.stE vf a df pl t=none) :
 (∃ p:Nat,p < 8∧pl=p)∧Ia (G.c a).pos=G.D∧(G.c a).st=false:=by
 unfold Gs.stE at h
 cases hP:G.stP a df pl t with
 | some e=>rw [hP] at h;cases h
 | none =>
   unfold Gs.stP at hP
   by_cases h1:pl < 0 ∨ 8≤pl
   ·rw [if_pos h1] at hP;cases hP
   rw [if_neg h1] at hP
   by_cases h2:Ia (G.c a).pos=G.D
   case neg=>rw [if_pos h2] at hP;cases hP
   rw [if_neg (fun q=>q h2)] at hP
   by_cases h3:df=true∧G.enJ a=none
   ·rw [if_pos h3] at hP;cases hP
   rw [if_neg h3] at hP
   cases h4:(G.c a).st with
   | true=>rw [if_pos h4] at hP;cases hP
   | false=>exact ⟨⟨pl.toNat,by omega,by omega⟩,h2,rfl⟩
theorem Vj {G:Gs} {a:Nat} {t:BitVec 64} (h:G.rsE a t=none):¬ G.kidO a∧¬ Gy (G.c a).us (G.c a).at' (CQ G.c (G.c a)) t∧G.l≤CQ G.c (G.c a) + t - (G.c a).at':=by
 unfold Gs.rsE at h
 by_cases h1:G.kidO a
 ·rw [if_pos h1] at h;cases h
 rw [if_neg h1] at h
 by_cases h2:Gy (G.c a).us (G.c a).at' (CQ G.c (G.c a)) t
 ·rw [if_pos h2] at h;cases h
 rw [if_neg h2] at h
 by_cases h3:G.l≤CQ G.c (G.c a) + t - (G.c a).at'
 ·exact ⟨h1,h2,h3⟩
 ·rw [if_neg h3] at h;cases h
theorem Tb {G:Gs} {vf:Dg→Dg × Option Int} {a:Int} {df:Bool} {pl:Int} {t:BitVec 64} (h:G.tE vf a df pl t=none):∃ p:Nat,a=p∧p < G.n∧(G.c p).rs=false∧G.stE vf p df pl t=none:=by
 unfold Gs.tE at h
 by_cases h1:a < 0 ∨ (G.n:Int)≤a
 ·rw [if_pos h1] at h;cases h
 rw [if_neg h1] at h
 obtain ⟨p,rfl⟩:∃ p:Nat,a=p:=⟨a.toNat,by omega⟩
 rw [Int.toNat_natCast] at h
 cases hrs:(G.c p).rs with
 | true=>rw [if_pos hrs] at h;cases h
 | false=>rw [if_neg (by rw [hrs];simp)] at h;exact ⟨p,rfl,by omega,hrs,h⟩
theorem Rg {G:Gs} {a:Int} {t:BitVec 64} (h:G.rE a t=none):∃ p:Nat,a=p∧p < G.n∧(G.c p).rs=false∧G.rsE p t=none:=by
 unfold Gs.rE at h
 by_cases h1:a < 0 ∨ (G.n:Int)≤a
 ·rw [if_pos h1] at h;cases h
 rw [if_neg h1] at h
 obtain ⟨p,rfl⟩:∃ p:Nat,a=p:=⟨a.toNat,by omega⟩
 rw [Int.toNat_natCast] at h
 cases hrs:(G.c p).rs with
 | true=>rw [if_pos hrs] at h;cases h
 | false=>rw [if_neg (by rw [hrs];simp)] at h;exact ⟨p,rfl,by omega,hrs,h⟩
structure Gs.ok (G:Gs):Prop where
 w:G.wf
 b:G.bd
 n0:0 < G.n
theorem WT {D k i:Nat} {df:Bool} (hk:k < D) (hi:i < 2 ^ k) (h:¬ (df=true∧i + 1=2 ^ k)):∃ k' i',k'≤D∧i' < 2 ^ k'∧Ks k i df=pw k' i':=by
 have e:2 ^ (k + 1)=2 * 2 ^ k:=Y6
 unfold Ks
 cases df with
 | true=>exact ⟨k + 1,2 * i + 2,hk,by rw [e];have:i + 1 ≠ 2 ^ k:=fun q=>h ⟨rfl,q⟩;omega,by simp⟩
 | false=>exact ⟨k + 1,2 * i,hk,by rw [e];omega,by simp⟩
theorem Af2 {G:Gs} (h:G.ok) {a:Int} {df:Bool} {v:Dg} {pl:Int} {bd t:BitVec 64} (he:G.mE a df v pl bd t=none):(G.mT a df v pl bd t).ok:=by
 obtain ⟨p,rfl,hp,hrs,he⟩:=Gs.mE_in he
 obtain ⟨k,i,hk,hi,hpos⟩:=h.w.pls p hp
 have hD:=h.w.hD
 unfold Gs.mT
 rw [Int.toNat_natCast]
 rw [hpos,Cr Aa hi,Ej Aa hi] at he ⊢
 obtain ⟨h1,h2,h3,-,-,-,h7,⟨q,hq,rfl⟩,-⟩:=Me he
 have hA:=WT h1 hi h2
 refine ⟨⟨hD,?_,h.w.hr,fun j hj=>?_,fun j hj=>?_⟩,⟨fun j hj=>?_,fun j hj=>?_,fun j hj=>?_⟩,?_⟩
 ·show G.n + 1≤64;omega
 all_goals try (show 0 < G.n + 1;omega)
 all_goals
  have hj:j < G.n + 1:=hj
  dsimp only [Gs.mv]
  by_cases hjn:j < G.n
 all_goals simp only [hjn,CL]
 ·exact h.w.pls j hjn
 ·exact hA
 ·exact h.w.prs j hjn
 ·exact .inr ⟨p,rfl,by omega⟩
 ·exact h.b.bond j hjn
 ·refine ⟨?_,rfl⟩
  show (G.n:Int)=j
  omega
 ·exact h.b.by' j hjn
 ·exact ⟨q,hq,rfl⟩
 ·exact h.b.pl j hjn
 ·exact ⟨q,hq,rfl⟩
theorem Aiq {G:Gs} (h:G.ok) {vf:Dg→Dg × Option Int} {a:Int} {df:Bool} {pl:Int} {t:BitVec 64} (he:G.tE vf a df pl t=none):(G.tT a pl).ok:=by
 obtain ⟨p,rfl,hp,hrs,he⟩:=Tb he
 obtain ⟨⟨q,hq,rfl⟩,-,-⟩:=Acc he
 refine ⟨⟨h.w.hD,h.w.hn,h.w.hr,fun j hj=>?_,fun j hj=>?_⟩,⟨fun j hj=>?_,fun j hj=>?_,fun j hj=>?_⟩,h.n0⟩
 all_goals
  dsimp only [Gs.tT]
  rw [Int.toNat_natCast]
  by_cases hjp:j=p
 all_goals first | subst hjp | skip
 all_goals first | simp only [hjp,if_false] | simp only [if_true]
 ·exact h.w.pls j hj
 ·exact h.w.pls j hj
 ·exact h.w.prs j hj
 ·exact h.w.prs j hj
 ·exact h.b.bond j hj
 ·exact h.b.bond j hj
 ·exact ⟨q,hq,rfl⟩
 ·exact h.b.by' j hj
 ·exact h.b.pl j hj
 ·exact h.b.pl j hj
theorem Ti {G:Gs} (h:G.ok) {a:Nat} (ha:a < G.n):(G.rsv a).ok:=by
 obtain ⟨q,hq,hB⟩:=G.rsB_lt h.b ha
 refine ⟨⟨h.w.hD,h.w.hn,h.w.hr,fun j hj=>?_,fun j hj=>?_⟩,⟨fun j hj=>?_,fun j hj=>?_,fun j hj=>?_⟩,h.n0⟩
 all_goals
  dsimp only [Gs.rsv,Gs.rsC]
  by_cases hjp:j=a
 all_goals first | subst hjp | skip
 all_goals first | simp only [hjp,if_false] | simp only [if_true]
 ·exact h.w.pls j hj
 ·exact h.w.pls j hj
 ·exact h.w.prs j hj
 ·exact h.w.prs j hj
 ·exact ⟨(h.b.bond j hj).1,trivial⟩
 ·exact h.b.bond j hj
 ·exact ⟨q,hq,hB⟩
 ·exact h.b.by' j hj
 ·exact h.b.pl j hj
 ·exact h.b.pl j hj
structure Op where
 kd:Int
 cl:Int
 df:Bool
 vl:Int
 pl:Int
 off:BitVec 64
 tn:BitVec 64
 wt:BitVec 64
instance:Inhabited Op:=⟨⟨0,0,false,0,0,0,0,0⟩⟩
def Op.v (o:Op):V:=.st 8 (.fcons 0 (.int .i64 o.kd) (.fcons 1 (.int .i64 o.cl) (.fcons 2 (.bool o.df) (.fcons 3 (.int .i64 o.vl) (.fcons 4 (.int .i64 o.pl) (.fcons 5 (W o.off) (.fcons 6 (W o.tn) (.fcons 7 (W o.wt) .fnil))))))))
def m8 (n:Int):Nat:=(BitVec.ofInt 64 n % 8#64).toNat
theorem E7 (n:Int):m8 n < 8:=by rw [m8,BitVec.toNat_umod];exact Nat.mod_lt _ Am
theorem CB (n:Int):(BitVec.ofInt 64 n % 8#64).toInt=(m8 n:Int):=by
 have:=E7 n
 rw [BitVec.toInt_eq_toNat_cond,if_pos (by unfold m8 at this;omega)];rfl
def Gs.dep (G:Gs) (a:Int):Nat:=if a < 0 ∨ (G.n:Int)≤a then 0 else Ia (G.c a.toNat).pos
def Oi (tv:Int→Dg) (vf:Nat→Dg→Dg × Option Int) (o:Op) (S:Gs × BitVec 64):Gs × BitVec 64 :=
 if o.kd=1 then (match S.1.mE o.cl o.df (tv o.vl) (m8 o.pl) (BitVec.ofNat 64 (S.1.dep o.cl + 2)) S.2 with
  | none=>(S.1.mT o.cl o.df (tv o.vl) (m8 o.pl) (BitVec.ofNat 64 (S.1.dep o.cl + 2)) S.2,S.2)
  | some _=>S)
 else if o.kd=2 then (match S.1.tE (vf (m8 o.vl)) o.cl o.df (m8 o.pl) S.2 with
  | none=>(S.1.tT o.cl (m8 o.pl),S.2)
  | some _=>S)
 else if o.kd=3 then (match S.1.rE o.cl S.2 with
  | none=>(S.1.rsv o.cl.toNat,S.2)
  | some _=>S)
 else if o.kd=4 then (S.1,S.2 + o.wt % 20#64)
 else S
theorem ZY {tv:Int→Dg} {vf:Nat→Dg→Dg × Option Int} {o:Op} {S:Gs × BitVec 64} (h:S.1.ok):(Oi tv vf o S).1.ok:=by
 unfold Oi
 split
 ·split
  ·next he=>exact Af2 h he
  ·exact h
 split
 ·split
  ·next he=>exact Aiq h he
  ·exact h
 split
 ·split
  ·next he =>
   obtain ⟨p,hp,hpn,-,-⟩:=Rg he
   rw [hp,Int.toNat_natCast]
   exact Ti h hpn
  ·exact h
 split
 ·exact h
 ·exact h
def HQ (tv:Int→Dg) (vf:Nat→Dg→Dg × Option Int) (l:Nat→Op) (S:Gs × BitVec 64):Nat→Gs × BitVec 64
 | 0=>S
 | i + 1=>Oi tv vf (l i) (HQ tv vf l S i)
theorem Ig {tv:Int→Dg} {vf:Nat→Dg→Dg × Option Int} {l:Nat→Op} {S:Gs × BitVec 64} (h:S.1.ok):∀ i,(HQ tv vf l S i).1.ok
 | 0=>h
 | i + 1=>ZY (Ig h i)
theorem DL {tv:Int→Dg} {vf:Nat→Dg→Dg × Option Int} {l:Nat→Op} {P:Nat→Gs × BitVec 64→Prop} {S:Gs × BitVec 64} (h:P 0 S) (ok:S.1.ok) (hk:∀ i S,P i S→P (i + 1) S)
 (hm:∀ i S a df v pl bd,S.1.ok→P i S→S.1.mE a df v pl bd S.2=none→P i (S.1.mT a df v pl bd S.2,S.2))
 (ht:∀ i S vf a df pl,S.1.ok→P i S→S.1.tE vf a df pl S.2=none→P i (S.1.tT a pl,S.2))
 (hr:∀ i S a,S.1.ok→P i S→a < S.1.n→(S.1.c a).rs=false→S.1.rsE a S.2=none→P i (S.1.rsv a,S.2))
 (hw:∀ i S (u:BitVec 64),S.1.ok→P i S→u.toNat < 20→P (i + 1) (S.1,S.2 + u)):∀ i,P i (HQ tv vf l S i)
 | 0=>h
 | i + 1 => by
   have ih:=DL (tv:=tv) (vf:=vf) (l:=l) h ok hk hm ht hr hw i
   have hK:=Ig (tv:=tv) (vf:=vf) (l:=l) ok i
   show P (i + 1) (Oi tv vf (l i) (HQ tv vf l S i))
   generalize HQ tv vf l S i=T at *
   unfold Oi
   split
   ·split
    ·next he=>exact hk _ _ (hm i T _ _ _ _ _ hK ih he)
    ·exact hk _ _ ih
   split
   ·split
    ·next he=>exact hk _ _ (ht i T _ _ _ _ hK ih he)
    ·exact hk _ _ ih
   split
   ·split
    ·next he =>
     obtain ⟨p,hp,hpn,hrs,he⟩:=Rg he
     rw [hp,Int.toNat_natCast]
     exact hk _ _ (hr i T p hK ih hpn hrs he)
    ·exact hk _ _ ih
   split
   ·exact hw i T _ hK ih (by rw [BitVec.toNat_umod];exact Nat.mod_lt _ Am)
   ·exact hk _ _ ih
end Mv
