/- A part. -/
import Derived.Test.YtlfkjfonpacelaaGreatDoorHP
set_option linter.all false
set_option maxRecDepth 20000
set_option maxHeartbeats 16000000
namespace Mv
open Go
structure OkGr (M:Seat):Prop where
 t:OkGt M
 k252:Ar M 252 X2=true
def ltO (c:Nat→Cl) (i:Nat):Option Nat→Bool
 | none=>true
 | some b=>decide ((c i).pos < (c b).pos)
def Dl (c:Nat→Cl) (a:Int):Nat→Option Nat
 | 0=>none
 | i + 1=>if (c i).par=a∧(c i).co=false∧ltO c i (Dl c a i)=true then some i else Dl c a i
theorem MQ (c:Nat→Cl) (a:Int):∀ i j,Dl c a i=some j→j < i∧(c j).par=a∧(c j).co=false
 | 0,_,h=>by cases h
 | i + 1, j, h => by
   rw [Dl] at h
   split at h
   ·next hc=>cases h;exact ⟨by omega,hc.1,hc.2.1⟩
   ·obtain ⟨h1,h2⟩:=MQ c a i j h
    exact ⟨by omega,h2⟩
def YJ (c:Nat→Cl) (o:Option Nat):V:=match o with
 | some j=>(c j).v
 | none=>Cl.zero.v
abbrev Gs.kidO (G:Gs) (a:Nat):Prop:=∃ j,j < G.n∧(G.c j).par=a∧(G.c j).rs=false
def Gs.rsE (G:Gs) (a:Nat) (t:BitVec 64):Option Int :=
 if G.kidO a then some 44
 else if Ng (G.c a).us (G.c a).at' (HL G.c (G.c a)) t then some 2
 else if G.l≤HL G.c (G.c a) + t - (G.c a).at' then none
 else some 44
def Gs.rsB (G:Gs) (a:Nat):Int:=match Dl G.c a G.n with
 | some j=>if (G.c a).st=true then (G.c a).by' else (G.c j).pl
 | none=>(G.c a).by'
def Gs.rsC (G:Gs) (a:Nat):Cl:={ G.c a with rs:=true,co:=(G.c a).st || (Dl G.c a G.n).isSome,by':=G.rsB a }
def Gs.rsv (G:Gs) (a:Nat):Gs:={ G with c:=fun j=>if j=a then G.rsC a else G.c j,b:=fun j=>if j=(G.rsB a).toNat then G.b (G.rsB a).toNat + G.v a else G.b j,k:=G.k - G.v a,gv:=fun j=>if j=a then true else G.gv j }
theorem Ni {M:Seat} (ok:OkGr M) (G:Gs) (w:G.wf) (a:Nat) (ha:a < G.n) (hu:(G.c a).rs=false) (hbd:(G.c a).bond=a) (hgv:G.gv a=false) (hB:∃ p:Nat,p < 8∧G.rsB a=p) (t:BitVec 64) :
 Ae M 252 [.ptr 0 [],.int .i64 a,W t] G.H 4 (Q3 (Da (G.rsE a t)) ((match G.rsE a t with | none=>G.rsv a | some _=>G).H) 4):=by
 have hOE:=Rz ok.t.s G.D G.l G.g G.s G.n G.c (G.c a) t w.hr (RJ w.prs ha)
 have hOS:=Q9 ok.t.s G.D G.l G.g G.s G.n G.c (G.c a) t w.hr (RJ w.prs ha)
 have hn:=w.hn
 obtain ⟨p,hp8,hBp⟩:=hB
 have hG:=Uc ok.t.s.le G.b G.i G.o G.n G.k G.v G.gv a ha Aa hgv p hp8
 clear w
 generalize hE:G.rsE a t=E
 generalize hX:G.rsv a=X
 unfold Gs.rsE at hE
 unfold Gs.rsv at hX
 unfold Gs.rsC at hX
 rw [hBp,Int.toNat_natCast] at hX
 unfold Gs.rsB at hBp
 obtain ⟨D,l,g,s,n,c,b,ii,o,kk,vv,gv⟩:=G
 dsimp only at *
 have hca:(c a).v=Cl.v ⟨(c a).par,(c a).pos,(c a).val,(c a).pl,(c a).bond,(c a).us,(c a).at',(c a).st,(c a).rs,(c a).co,(c a).by'⟩:=rfl
 generalize hu0:HL c (c a)=u at *
 have d0:((a:Int) < 0)=False:=eq_false Aa
 have d1:((n:Int)≤(a:Int))=False:=eq_false Aa
 have d2:((a:Int) < (n:Int))=True:=eq_true Aa
 have d3:(0≤(a:Int))=True:=eq_true Aa
 refine Ab ok.k252 rfl fun x hx=>?_
 refine es 2000 ?_;(simp only [X2,Xb,Gs.H,AB,AH,Ah,AJ,AA,Be,AU,Cl.v,hu,d0,d1,d2,d3,LZ,seval])
 repeat refine sd ?_
 refine An (σ:=Nat) (fun i=>i≤n∧∀ j,j < i→(c j).par=a→(c j).rs=true) (fun i=>fr 128 [(0,.ptr 0 []),(1,.int .i64 a),(2,W t),(6,.nili),(7,.ptr 4 []),(8,.ptr 5 []),(9,.bool (Dl c a i).isSome),(48,.sl 1 [] 0 n 42),(49,.int .i64 n),(50,.int .i64 i)]) (fun i=>[(0,AB D l g s (.ptr 2 []) (.sl 1 [] 0 n 42)),(1,AJ n c),(2,AA b ii o (.sl 3 [] 0 n 2) kk),(3,Be n vv gv),(4,(c a).v),(5,YJ c (Dl c a i))]) (fun _=>6) (fun i=>n - i) 0 ⟨by omega,fun j h=>by omega⟩ ?_ ?_
 ·refine Ao.fr [0,1,2,3,468,516] [] hx AX Am ?_ ?_
  ·simp only [Dl,Option.isSome,Int.natCast_zero,LY,seval]
  ·simp only [Dl,YJ,AB,AH,Ah,AJ,AA,Be,AU,Cl.v,Cl.zero,hu,dg,LY,seval]
 ·intro i ⟨hi,hk⟩
  refine es 2000 ?_
  by_cases hin:i=n
  ·subst hin
   have w0:((i:Int) < (i:Int))=False:=eq_false Aa
   have hno:¬ ∃ j,j < i∧(c j).par=a∧(c j).rs=false:=fun ⟨j,h1,h2,h3⟩=>by rw [hk j h1 h2] at h3;cases h3
   rw [if_neg hno] at hE
   simp only [Cl.v,hu] at hOE hOS
   (simp only [w0,AB,AH,Ah,AJ,AA,Be,AU,Cl.v,hu,LZ,seval])
   by_cases h5:Ng (c a).us (c a).at' u t
   ·rw [if_pos h5] at hE
    subst hE
    have hO:=hOE h5
    have zz:=aq7 @AB.eq_1 @AH.eq_1 @Ah.eq_1 @Cl.v.eq_1 @AJ.eq_1 @dg.eq_1 hu;refine Co [0,1,2] [0,1] (hO) ?_
    (simp only [BU,AB,AH,Ah,Cl.v,AJ,seval])
    have zz:=Ia @Da.eq_1 @Da.eq_2 @dg.eq_1 @Cl.v.eq_1 @Gs.H.eq_1 @AB.eq_1 @AH.eq_1 @Ah.eq_1 @AJ.eq_1 @AA.eq_1 @Be.eq_1 @AU.eq_1 hu;exact Bu hx [0,1,2,3] ⟨rfl,rfl,rfl⟩
   rw [if_neg h5] at hE
   have hO:=hOS h5
   by_cases h6:l≤u + t - (c a).at'
   case neg =>
    rw [if_neg h6] at hE
    subst hE
    rw [decide_eq_false h6] at hO
    have zz:=aq7 @AB.eq_1 @AH.eq_1 @Ah.eq_1 @Cl.v.eq_1 @AJ.eq_1 @dg.eq_1 hu;refine Co [0,1,2] [0,1] (hO) ?_
    (simp only [BU,AB,AH,Ah,Cl.v,AJ,seval])
    have zz:=Ia @Da.eq_1 @Da.eq_2 @dg.eq_1 @Cl.v.eq_1 @Gs.H.eq_1 @AB.eq_1 @AH.eq_1 @Ah.eq_1 @AJ.eq_1 @AA.eq_1 @Be.eq_1 @AU.eq_1 hu;exact Bu hx [0,1,2,3] ⟨rfl,rfl,rfl⟩
   rw [if_pos h6] at hE
   subst hE
   rw [decide_eq_true h6] at hO
   generalize hb:Dl c a i=R at *
   have hlR:∀ j,R=some j→j < i:=fun j hj=>(MQ c a i j (hb.trans hj)).1
   clear hb hk hno
   have hpB:∀ st,(c a).st=st→(st=true ∨ R=none→(c a).by'=p)∧∀ j,st=false→R=some j→(c j).pl=p:=by
    rintro st rfl
    cases hst:(c a).st <;> cases R <;> rw [hst] at hBp <;> simp at hBp <;> refine ⟨fun h=>?_,fun j h1 h2=>?_⟩
    all_goals first | exact hBp | (cases h2;exact hBp) | (cases h2;done) | (rcases h with h | h <;> cases h) | cases h1
   have hm:=fun st (h:(c a).st=st)=>(hpB st h).1
   have hm2:=fun st (h:(c a).st=st)=>(hpB st h).2
   clear hpB hBp hOE hOS
   cases hst:(c a).st <;> cases R
   case' false.none=>have hq:=hm _ hst (.inr rfl)
   case' true.none=>have hq:=hm _ hst (.inr rfl)
   case' true.some=>have hq:=hm _ hst (.inl rfl)
   case' false.some j=>have hq:=hm2 _ hst j rfl rfl
   all_goals
    simp only [hst,Bool.or_true,Bool.true_or,Bool.false_or,Option.isSome] at hO hX
    clear hm hm2
    have zz:=W7 @AB.eq_1 @AH.eq_1 @Ah.eq_1 @Cl.v.eq_1 @AJ.eq_1 @dg.eq_1 hu hst;refine Co [0,1,2] [0,1] (hO) ?_
    (simp only [BU,AB,AH,Ah,Cl.v,AJ,YJ,Option.isSome,Cl.zero,hq,hbd,d2,d3,hst,seval])
    repeat refine sd ?_
    have zz:=Bo @AA.eq_1 @AU.eq_1;refine KI [2,3] [2,3] (hG) ?_
    (simp only [BU,AA,AU,seval])
    subst hX
    refine Aq.mk hx [0,1,2,3] [] .nili _ 4 Am (by (simp only [Db,seval])) (by simp only [LV,Ag,LY,seval]) ?_ ⟨rfl,rfl,rfl⟩
    simp only [Gs.H,AB,AH,Ah,AJ,Cl.v,AA,Be,AU,dg,LY,seval]
    intro j hj
    by_cases h:j=a
    ·subst h
     simp only [if_true,hbd,hst,LY,seval]
    ·simp only [h,if_false,LY,seval]
  ·have w0:((i:Int) < (n:Int))=True:=eq_true Aa
   have w1:(0≤(i:Int))=True:=eq_true Aa
   have z0:IntKind.i64.wrap ((i:Int) + 1)=((i + 1:Nat):Int):=Br
   have hk':(c i).rs=true→∀ j,j < i + 1→(c j).par=a→(c j).rs=true:=fun h0 j hj hp=>by
    rcases Nat.lt_or_ge j i with h | h
    ·exact hk j h hp
    ·obtain rfl:j=i:=Aa
     exact h0
   by_cases h1:(c i).par=a
   case neg =>
    have hb1:Dl c a (i + 1)=Dl c a i:=by rw [Dl,if_neg (fun h=>h1 h.1)]
    have h1':=eq_false h1
    generalize hR:Dl c a i=R at *
    (simp only [w0,w1,z0,AB,AH,Ah,AJ,AA,Be,AU,Cl.v,h1',hu,LZ,seval])
    repeat refine sd ?_
    refine ⟨i + 1,by omega,fun j hj hp=>?_,by omega,?_⟩
    ·rcases Nat.lt_or_ge j i with h | h
     ·exact hk j h hp
     ·obtain rfl:j=i:=Aa
      exact absurd hp h1
    rw [hb1]
    cases R
    all_goals
     refine Ao.fr [0,1,2,3,4,5] [] hx AX Am ?_ ?_
     ·simp only [Option.isSome,LY,seval]
     ·simp only [YJ,AB,AH,Ah,AJ,AA,Be,AU,Cl.v,Cl.zero,hu,dg,LY,seval]
   have h1':=eq_true h1
   cases hrs:(c i).rs with
   | false =>
     have hin2:i < n:=Aa
     rw [if_pos ⟨i,hin2,h1,hrs⟩] at hE
     subst hE
     (simp only [w0,w1,z0,AB,AH,Ah,AJ,AA,Be,AU,Cl.v,h1',hrs,hu,LZ,seval])
     repeat refine sd ?_
     have zz:=Ia @Da.eq_1 @Da.eq_2 @dg.eq_1 @Cl.v.eq_1 @Gs.H.eq_1 @AB.eq_1 @AH.eq_1 @Ah.eq_1 @AJ.eq_1 @AA.eq_1 @Be.eq_1 @AU.eq_1 hu;exact Bu hx [0,1,2,3] ⟨rfl,rfl,rfl⟩
   | true =>
     have hk2:=hk' hrs
     cases hco:(c i).co with
     | true =>
       have hb1:Dl c a (i + 1)=Dl c a i:=by rw [Dl,if_neg (fun h=>by have:=h.2.1;rw [hco] at this;cases this)]
       generalize hR:Dl c a i=R at *
       (simp only [w0,w1,z0,AB,AH,Ah,AJ,AA,Be,AU,Cl.v,h1',hrs,hco,hu,LZ,seval])
       repeat refine sd ?_
       refine ⟨i + 1,by omega,hk2,by omega,?_⟩
       rw [hb1]
       cases R
       all_goals
        refine Ao.fr [0,1,2,3,4,5] [] hx AX Am ?_ ?_
        ·simp only [Option.isSome,LY,seval]
        ·simp only [YJ,AB,AH,Ah,AJ,AA,Be,AU,Cl.v,Cl.zero,hu,dg,LY,seval]
     | false =>
       have hb0:Dl c a (i + 1)=if ltO c i (Dl c a i)=true then some i else Dl c a i:=by
        rw [Dl]
        by_cases h:ltO c i (Dl c a i)=true
        ·rw [if_pos ⟨h1,hco,h⟩,if_pos h]
        ·rw [if_neg (fun h2=>h h2.2.2),if_neg h]
       generalize hR:Dl c a i=R at *
       cases R with
       | none =>
         rw [ltO,if_pos rfl] at hb0
         (simp only [w0,w1,z0,AB,AH,Ah,AJ,AA,Be,AU,Cl.v,h1',hrs,hco,hu,Option.isSome,LZ,seval])
         repeat refine sd ?_
         refine ⟨i + 1,by omega,hk2,by omega,?_⟩
         rw [hb0]
         refine Ao.fr [0,1,2,3,4,5] [] hx AX Am ?_ ?_
         ·simp only [Option.isSome,LY,seval]
         ·simp only [YJ,AB,AH,Ah,AJ,AA,Be,AU,Cl.v,Cl.zero,h1',h1,hrs,hco,hu,dg,LY,seval]
       | some b =>
         by_cases hlt:(c i).pos < (c b).pos
         ·have hlt':=eq_true hlt
          rw [ltO,decide_eq_true hlt,if_pos rfl] at hb0
          (simp only [w0,w1,z0,AB,AH,Ah,AJ,AA,Be,AU,YJ,Cl.v,h1',hrs,hco,hu,hlt',Option.isSome,LZ,seval])
          repeat refine sd ?_
          refine ⟨i + 1,by omega,hk2,by omega,?_⟩
          rw [hb0]
          refine Ao.fr [0,1,2,3,4,5] [] hx AX Am ?_ ?_
          ·simp only [Option.isSome,LY,seval]
          ·simp only [YJ,AB,AH,Ah,AJ,AA,Be,AU,Cl.v,Cl.zero,h1',h1,hrs,hco,hu,dg,LY,seval]
         ·have hlt':=eq_false hlt
          rw [ltO,decide_eq_false hlt,if_neg Am] at hb0
          (simp only [w0,w1,z0,AB,AH,Ah,AJ,AA,Be,AU,YJ,Cl.v,h1',hrs,hco,hu,hlt',Option.isSome,LZ,seval])
          repeat refine sd ?_
          refine ⟨i + 1,by omega,hk2,by omega,?_⟩
          rw [hb0]
          refine Ao.fr [0,1,2,3,4,5] [] hx AX Am ?_ ?_
          ·simp only [Option.isSome,LY,seval]
          ·simp only [YJ,AB,AH,Ah,AJ,AA,Be,AU,Cl.v,Cl.zero,hu,dg,LY,seval]
variable {M:Seat}
def Gs.mE (G:Gs) (a:Int) (df:Bool) (v:Dg) (pl:Int) (bd t:BitVec 64):Option Int :=
 if a < 0 ∨ (G.n:Int)≤a then some 4
 else if (G.c a.toNat).rs=true then some 43
 else mvE G a.toNat df v pl bd t (YC (G.c a.toNat).pos) (ixW (G.c a.toNat).pos)
def Gs.mT (G:Gs) (a:Int) (df:Bool) (v:Dg) (pl:Int) (bd t:BitVec 64):Gs :=
 G.mv (mvC G a.toNat df v pl t (YC (G.c a.toNat).pos) (ixW (G.c a.toNat).pos)) pl.toNat bd
theorem Gs.mE_in {G:Gs} {a:Int} {df:Bool} {v:Dg} {pl:Int} {bd t:BitVec 64} (h:G.mE a df v pl bd t=none):∃ p:Nat,a=p∧p < G.n∧(G.c p).rs=false∧mvE G p df v pl bd t (YC (G.c p).pos) (ixW (G.c p).pos)=none:=by
 unfold Gs.mE at h
 by_cases h1:a < 0 ∨ (G.n:Int)≤a
 ·rw [if_pos h1] at h;cases h
 rw [if_neg h1] at h
 obtain ⟨p,rfl⟩:∃ p:Nat,a=p:=⟨a.toNat,by omega⟩
 rw [Int.toNat_natCast] at h
 cases hrs:(G.c p).rs with
 | true=>rw [if_pos hrs] at h;cases h
 | false=>rw [if_neg (by rw [hrs];simp)] at h;exact ⟨p,rfl,by omega,hrs,h⟩
theorem Ou (ok:OkGr M) (G:Gs) (w:G.wf) (a:Int) (df:Bool) (v:Dg) (pl:Int) (bd t:BitVec 64) (he:G.mE a df v pl bd t=none) :
 Ae M 110 [.ptr 0 [],.int .i64 a,.bool df,dg v,.int .i64 pl,W bd,W t] G.H 4 (Q3 (Ag (.int .i64 (G.n:Int)) .nili) ((G.mT a df v pl bd t).H2) 6):=by
 obtain ⟨p,rfl,hp,hrs,he⟩:=Gs.mE_in he
 have hD:=w.hD
 have hn:=w.hn
 obtain ⟨k,i,hk,hi,hpos⟩:=w.pls p hp
 have hM:=Q7 ok.t.s.v G p df v pl bd t k i Aa w.hr hp Aa hi hpos (RJ w.prs hp) (by rw [hpos,QO Aa hi,XK Aa hi] at he;exact he)
 have hF:=Qb ok.t.s.v.g G.D G.l G.g G.s G.n G.c p hp hrs
 have hA:=J5 ok.t.s.v.g p
 have hT:G.mT p df v pl bd t=G.mv (mvC G p df v pl t k i) pl.toNat bd:=by rw [Gs.mT,Int.toNat_natCast,hpos,QO Aa hi,XK Aa hi]
 rw [hT]
 clear w he hT
 unfold Gs.mv mvC clN at *
 simp only [Gs.H2,clX,Cl.v,Ah,hrs] at hM ⊢
 generalize anP k i df=q at *
 generalize mnW (HL G.c (G.c p) + t - (G.c p).at') (G.l - G.g)=u at *
 obtain ⟨D,l,g,s,n,c,b,ii,o,kk,vv,gv⟩:=G
 dsimp only at *
 simp only [Gs.H,AB,AH,Ah] at hM
 refine Ab ok.t.s.v.g.n.k110 rfl fun x hx=>?_
 refine es 2000 ?_;(simp only [Alw,Akz,Gs.H,AB,AH,Ah,AJ,AA,Be,AU,Cl.v,LZ,seval])
 have zz:=Va @AB.eq_1 @AH.eq_1 @Ah.eq_1 @AJ.eq_1 @Cl.v.eq_1 @dg.eq_1;refine Co [0,1,2] [0,1] (hF) ?_
 (simp only [BU,AB,AH,Ah,AJ,Cl.v,hrs,seval])
 have zz:=aq9 @AB.eq_1 @AH.eq_1 @Ah.eq_1 @AJ.eq_1 @AA.eq_1 @Be.eq_1 @AU.eq_1 @Cl.v.eq_1 @dg.eq_1;refine Co [0,1,2,3] [0,1,2,3] (hM) ?_
 (simp only [BU,AB,AH,Ah,AJ,AA,Be,AU,Cl.v,seval])
 refine Al (hA) ?_
 (simp only [BU,seval])
 refine Aq.mk hx [0,1,2,3,388,389] [] (Ag (.int .i64 n) .nili) _ 6 Am (by (simp only [Db,seval])) (by simp only [LV,Ag,LY,seval]) ?_ ⟨rfl,rfl,rfl⟩
 simp only [AB,AH,Ah,AJ,Cl.v,AA,Be,AU,dg,LY,seval]
 (repeat' apply And.intro)
 all_goals
  intro j hj
  by_cases h:j < n
  ·simp only [h,if_true,LY,seval]
  ·simp only [h,if_false,LY,seval]
def Gs.tT (G:Gs) (a:Int) (pl:Int):Gs:={ G with c:=fun j=>if j=a.toNat then { G.c a.toNat with st:=true,by':=pl } else G.c j }
def Gs.rE (G:Gs) (a:Int) (t:BitVec 64):Option Int :=
 if a < 0 ∨ (G.n:Int)≤a then some 4
 else if (G.c a.toNat).rs=true then some 41
 else G.rsE a.toNat t
structure Gs.bd (G:Gs):Prop where
 bond:∀ j,j < G.n→(G.c j).bond=j∧G.gv j=(G.c j).rs
 by':∀ j,j < G.n→∃ p:Nat,p < 8∧(G.c j).by'=p
 pl:∀ j,j < G.n→∃ p:Nat,p < 8∧(G.c j).pl=p
theorem Gs.rsB_lt {G:Gs} (h:G.bd) {a:Nat} (ha:a < G.n):∃ p:Nat,p < 8∧G.rsB a=p:=by
 unfold Gs.rsB
 cases hb:Dl G.c a G.n with
 | none=>exact h.by' a ha
 | some j =>
   dsimp only
   split
   ·exact h.by' a ha
   ·exact h.pl j (MQ _ _ _ _ hb).1
theorem KY (ok:OkGr M) (G:Gs) (w:G.wf) (wb:G.bd) (a:Int) (t:BitVec 64) :
 (∀ e,G.rE a t=some e→Ae M 115 [.ptr 0 [],.int .i64 a,W t] G.H 4 (Q3 (.ifc 145 (.ptr 4 [])) (G.H ++ [(4,ftV a e)]) 5)) ∧
 (G.rE a t=none→Ae M 115 [.ptr 0 [],.int .i64 a,W t] G.H 4 (Q3 .nili ((G.rsv a.toNat).H) 4)):=by
 have hD:=w.hD
 have hn:=w.hn
 have hA:=fun e=>YV ok.t.s.v.g a e
 have hA0:=J5 ok.t.s.v.g a
 have key:∀ e,(Ae M 252 [.ptr 0 [],.int .i64 a,W t] G.H 4 (Q3 (er e) G.H 4))→Ae M 115 [.ptr 0 [],.int .i64 a,W t] G.H 4 (Q3 (.ifc 145 (.ptr 4 [])) (G.H ++ [(4,ftV a e)]) 5):=fun e hR=>by
  have hA:=hA e
  clear hA0 w wb
  obtain ⟨D,l,g,s,n,c,b,ii,o,kk,vv,gv⟩:=G
  dsimp only at *
  simp only [Gs.H,AB,AH,Ah] at hR
  refine Ab ok.t.s.v.g.n.k115 rfl fun x hx=>?_
  refine es 2000 ?_;(simp only [Agk,Aev,Gs.H,AB,AH,Ah,AJ,AA,Be,AU,Cl.v,LZ,seval])
  have zz:=aq9 @AB.eq_1 @AH.eq_1 @Ah.eq_1 @AJ.eq_1 @AA.eq_1 @Be.eq_1 @AU.eq_1 @Cl.v.eq_1 @dg.eq_1;refine Co [0,1,2,3] [0,1,2,3] (hR) ?_
  (simp only [AB,AH,Ah,AJ,AA,Be,AU,Cl.v,LZ,seval])
  have zz:=@ftV.eq_1;refine PW (hA) ?_
  (simp only [ftV,LZ,seval])
  refine Aq.mk hx [0,1,2,3,132] [] (.ifc 145 (.ptr 4 [])) _ 5 Am (by (simp only [Db,seval])) (by simp only [LV,Ag,LY,seval]) ?_ ⟨rfl,rfl,rfl⟩
  simp only [Gs.H,AB,AH,Ah,AJ,Cl.v,AA,Be,AU,ftV,dg,CH,LY,seval]
 unfold Gs.rE
 by_cases h1:a < 0 ∨ (G.n:Int)≤a
 ·rw [if_pos h1]
  refine ⟨fun e he=>?_,fun h=>by cases h⟩
  cases he
  refine key 4 ?_
  clear key hA hA0 w wb
  obtain ⟨D,l,g,s,n,c,b,ii,o,kk,vv,gv⟩:=G
  dsimp only at *
  refine Ab ok.k252 rfl fun x hx=>?_
  by_cases h0:a < 0
  ·refine es 2000 ?_;(simp only [X2,Xb,Gs.H,AB,AH,Ah,AJ,AA,Be,AU,Cl.v,h0,LZ,seval])
   have zz:=Bo @dg.eq_1 @Cl.v.eq_1;exact Bu hx [0,1,2,3] ⟨rfl,rfl,rfl⟩
  ·have h1:(n:Int)≤a:=h1.resolve_left h0
   refine es 2000 ?_;(simp only [X2,Xb,Gs.H,AB,AH,Ah,AJ,AA,Be,AU,Cl.v,h0,h1,LZ,seval])
   have zz:=Bo @dg.eq_1 @Cl.v.eq_1;exact Bu hx [0,1,2,3] ⟨rfl,rfl,rfl⟩
 rw [if_neg h1]
 obtain ⟨p,rfl⟩:∃ p:Nat,a=p:=⟨a.toNat,by omega⟩
 have hp:p < G.n:=Aa
 rw [Int.toNat_natCast]
 cases hrs:(G.c p).rs with
 | true =>
   rw [if_pos rfl]
   refine ⟨fun e he=>?_,fun h=>by cases h⟩
   cases he
   refine key 41 ?_
   clear key hA hA0 w wb
   obtain ⟨D,l,g,s,n,c,b,ii,o,kk,vv,gv⟩:=G
   dsimp only at *
   have d0:((p:Int) < 0)=False:=eq_false Aa
   have d1:((n:Int)≤(p:Int))=False:=eq_false Aa
   have d2:((p:Int) < (n:Int))=True:=eq_true Aa
   have d3:(0≤(p:Int))=True:=eq_true Aa
   refine Ab ok.k252 rfl fun x hx=>?_
   refine es 2000 ?_;(simp only [X2,Xb,Gs.H,AB,AH,Ah,AJ,AA,Be,AU,Cl.v,d0,d1,d2,d3,hrs,LZ,seval])
   repeat refine sd ?_
   have zz:=Bo @dg.eq_1 @Cl.v.eq_1;exact Bu hx [0,1,2,3] ⟨rfl,rfl,rfl⟩
 | false =>
   rw [if_neg Am]
   have hR:=Ni ok G w p hp hrs (wb.bond p hp).1 ((wb.bond p hp).2.trans hrs) (G.rsB_lt wb hp) t
   cases hE:G.rsE p t with
   | some e =>
     rw [hE] at hR
     refine ⟨fun e' he=>?_,fun h=>by cases h⟩
     cases he
     exact key e hR
   | none =>
     rw [hE] at hR
     refine ⟨fun e' he=>(by cases he),fun _=>?_⟩
     clear key hA w wb
     simp only [EA] at hR
     generalize G.rsv p=X at *
     obtain ⟨D,l,g,s,n,c,b,ii,o,kk,vv,gv⟩:=G
     obtain ⟨D',l',g',s',n',c',b',ii',o',kk',vv',gv'⟩:=X
     dsimp only at *
     simp only [Gs.H,AB,AH,Ah] at hR
     refine Ab ok.t.s.v.g.n.k115 rfl fun x hx=>?_
     refine es 2000 ?_;(simp only [Agk,Aev,Gs.H,AB,AH,Ah,AJ,AA,Be,AU,Cl.v,LZ,seval])
     have zz:=aq9 @AB.eq_1 @AH.eq_1 @Ah.eq_1 @AJ.eq_1 @AA.eq_1 @Be.eq_1 @AU.eq_1 @Cl.v.eq_1 @dg.eq_1;refine Co [0,1,2,3] [0,1,2,3] (hR) ?_
     (simp only [AB,AH,Ah,AJ,AA,Be,AU,Cl.v,LZ,seval])
     refine Al (hA0) ?_
     (simp only [LZ,seval])
     have zz:=Bo @dg.eq_1 @Cl.v.eq_1;exact Bu hx [0,1,2,3] ⟨rfl,rfl,rfl⟩
theorem B5 (ok:OkGr M) (d:Int) (l g:BitVec 64) (s:Dg) (n:Nat) (c:Nat→Cl) (a:Nat) (ha:a < n) :
 Ae M 111 [.ptr 0 [],.int .i64 a] [(0,AB d l g s (.ptr 2 []) (.sl 1 [] 0 n 42)),(1,AJ n c)] 3 (Q3 (Ag (c a).v .nili) [(0,AB d l g s (.ptr 2 []) (.sl 1 [] 0 n 42)),(1,AJ n c)] 3):=by
 have d0:((a:Int) < 0)=False:=eq_false Aa
 have d1:((n:Int)≤(a:Int))=False:=eq_false Aa
 have d2:((a:Int) < (n:Int))=True:=eq_true Aa
 have d3:(0≤(a:Int))=True:=eq_true Aa
 refine Ab ok.t.s.v.g.n.k111 rfl fun x hx=>?_
 refine es 2000 ?_;(simp only [Ais,An0,AB,AH,Ah,AJ,Cl.v,d0,d1,d2,d3,LZ,seval])
 repeat refine sd ?_
 have zz:=EH @Ag.eq_1 @dg.eq_1 @Cl.v.eq_1 @AJ.eq_1;exact Bu hx [0,1,2] ⟨rfl,rfl,rfl⟩
theorem Dw (ok:OkGr M) (d:Int) (l g:BitVec 64) (s:Dg) (n:Nat) :
 Ae M 117 [.ptr 0 []] [(0,AB d l g s (.ptr 2 []) (.sl 1 [] 0 n 42))] 3 (Q3 (.int .i64 n) [(0,AB d l g s (.ptr 2 []) (.sl 1 [] 0 n 42))] 3):=by
 refine Ab ok.t.s.v.g.n.k117 rfl fun x hx=>?_
 refine es 2000 ?_;(simp only [Anu,Alz,AB,AH,Ah,LZ,seval])
 have zz:=@dg.eq_1;exact Bu hx [0,1,2] ⟨rfl,rfl,rfl⟩
theorem CW (ok:OkGr M) (d:Int) (l g:BitVec 64) (s:Dg) (n:Nat) :
 Ae M 119 [.ptr 0 []] [(0,AB d l g s (.ptr 2 []) (.sl 1 [] 0 n 42))] 3 (Q3 (AH d l g s) [(0,AB d l g s (.ptr 2 []) (.sl 1 [] 0 n 42))] 3):=by
 refine Ab ok.t.s.v.g.n.k119 rfl fun x hx=>?_
 refine es 2000 ?_;(simp only [Aj7,Ai9,AB,AH,Ah,LZ,seval])
 have zz:=CX @dg.eq_1 @AH.eq_1 @Ah.eq_1;exact Bu hx [0,1,2] ⟨rfl,rfl,rfl⟩
def Gs.sta (G:Gs):Int:=if (G.c 0).rs=true then (if (G.c 0).co=true then 2 else 1) else 0
theorem M6 (ok:OkGr M) (G:Gs) (hn:0 < G.n) :
 Ae M 118 [.ptr 0 []] [(0,AB G.D G.l G.g G.s (.ptr 2 []) (.sl 1 [] 0 G.n 42)),(1,AJ G.n G.c)] 3 (Q3 (.int .i64 G.sta) [(0,AB G.D G.l G.g G.s (.ptr 2 []) (.sl 1 [] 0 G.n 42)),(1,AJ G.n G.c)] 3):=by
 obtain ⟨D,l,g,s,n,c,b,ii,o,kk,vv,gv⟩:=G
 dsimp only [Gs.sta] at *
 have d2:((0:Int) < (n:Int))=True:=eq_true Aa
 refine Ab ok.t.s.v.g.n.k118 rfl fun x hx=>?_
 cases hrs:(c 0).rs <;> cases hco:(c 0).co
 all_goals
  refine es 2000 ?_;(simp only [Alq,Ai3,AB,AH,Ah,AJ,Cl.v,d2,hrs,hco,LZ,seval])
  repeat refine sd ?_
  have zz:=Bo @dg.eq_1 @Cl.v.eq_1;exact Bu hx [0,1,2] ⟨rfl,rfl,rfl⟩
structure Gs.ok (G:Gs):Prop where
 w:G.wf
 b:G.bd
 n0:0 < G.n
structure Op where
 kd:Int
 cl:Int
 df:Bool
 vl:Int
 pl:Int
 off:BitVec 64
 tn:BitVec 64
 wt:BitVec 64
instance:Inhabited Op:=⟨⟨0,0,false,0,0,0,0,0⟩⟩
def Op.v (o:Op):V:=.st 8 (.fcons 0 (.int .i64 o.kd) (.fcons 1 (.int .i64 o.cl) (.fcons 2 (.bool o.df) (.fcons 3 (.int .i64 o.vl) (.fcons 4 (.int .i64 o.pl) (.fcons 5 (W o.off) (.fcons 6 (W o.tn) (.fcons 7 (W o.wt) .fnil))))))))
def RK (v:Dg) (p:Int) (t:BitVec 64):Cl:=⟨-1,1#64,v,p,0,0#64,t,false,false,false,p⟩
def Gs.new (D:Nat) (l g:BitVec 64) (s v:Dg) (p:Nat) (t:BitVec 64) (b:Nat→BitVec 64) (i o k:BitVec 64):Gs:=⟨D,l,g,s,1,fun _=>RK v p t,fun j=>if j=p then b p - 1#64 else b j,i,o,k + 1#64,fun _=>1#64,fun _=>false⟩
theorem JA {M:Seat} (ok:OkMv M) (D:Nat) (l g:BitVec 64) (s v:Dg) (p:Nat) (t:BitVec 64) (b:Nat→BitVec 64) (i o k:BitVec 64) (hD:1≤D∧D≤20) (hr:Ty l g) (hp:p < 8) (ht:¬ 1099511627776#64 < t) (hb:¬ b p < 1#64) :
 Ae M 112 [AH D l g s,.ptr 0 [],.int .i64 p,dg v,W t] [(0,AA b i o .nils k)] 1 (Q3 (Ag (.ptr 2 []) .nili) [(0,AA (fun j=>if j=p then b p - 1#64 else b j) i o (.sl 1 [] 0 1 2) (k + 1#64)),(1,Be 1 (fun _=>1#64) (fun _=>false)),(2,AB D l g s (.ptr 0 []) (.sl 3 [] 0 1 42)),(3,AJ 1 fun _=>RK v p t)] 4):=by
 have hB:=L9 ok.g.n 0
 rw [show (if (0:Int) < 0 then 0#64 else BitVec.ofInt 64 0 + 1#64)=1#64 from rfl] at hB
 have hL:=Rl ok.g.l b i o k p hp 1#64 hb
 have hC:=F0 ok l g hr
 have d0:((D:Int) < 1)=False:=eq_false Aa
 have d1:((20:Int) < (D:Int))=False:=eq_false Aa
 refine Ab ok.g.n.k112 rfl fun x hx=>?_
 refine es 2000 ?_;(simp only [Am3,Aka,AH,Ah,d0,d1,LZ,seval])
 have zz:=@Ah.eq_1;refine DJ (hC) ?_
 (simp only [ht,LZ,seval])
 refine Al (hB) ?_
 (simp only [LZ,seval])
 have zz:=Bo @AA.eq_1 @AU.eq_1;refine G2 [0] (hL) ?_
 (simp only [BU,AA,AU,seval])
 refine Aq.mk hx [0,465,817,785] [] (Ag (.ptr 2 []) .nili) _ 4 Am (by (simp only [Db,seval])) (by simp only [LV,Ag,LY,seval]) ?_ ⟨rfl,rfl,rfl⟩
 simp only [AA,Be,AU,AJ,AB,AH,Ah,RK,Cl.v,dg,LY,seval,implies_true]
 intro j hj
 obtain rfl:j=0:=Aa
 simp only [if_true,LY,seval,implies_true]
structure Ga where
 dp:Int
 pl:Int
 rt:Int
 lm:BitVec 64
 gr:BitVec 64
 rc:BitVec 64
 nw:BitVec 64
instance:Inhabited Ga:=⟨⟨0,0,0,0,0,0,0⟩⟩
def Ga.v (a:Ga):V:=.st 7 (.fcons 0 (.int .i64 a.dp) (.fcons 1 (.int .i64 a.pl) (.fcons 2 (.int .i64 a.rt) (.fcons 3 (W a.lm) (.fcons 4 (W a.gr) (.fcons 5 (W a.rc) (.fcons 6 (W a.nw) .fnil)))))))
theorem Yl (l g:BitVec 64) (hr:Ty l g) (D:Nat) (hD:D≤20) (s v:Dg) (p:Nat) (hp:p < 8) (t:BitVec 64) (b:Nat→BitVec 64) (i o k:BitVec 64):(Gs.new D l g s v p t b i o k).ok:=by
 refine ⟨⟨hD,(by show 1≤64;decide),hr,fun j hj=>?_,fun j hj=>?_⟩,⟨fun j hj=>?_,fun j hj=>?_,fun j hj=>?_⟩,(by show 0 < 1;decide)⟩
 all_goals
  have hj:j < 1:=hj
  obtain rfl:j=0:=Aa
 ·exact ⟨0,0,Nat.zero_le _,by decide,rfl⟩
 ·exact .inl rfl
 ·exact ⟨rfl,rfl⟩
 ·exact ⟨p,hp,rfl⟩
 ·exact ⟨p,hp,rfl⟩
def d1 (a:BitVec 8):Dg:=Dg.mk' fun j=>if j=0 then a else 0#8
end Mv
