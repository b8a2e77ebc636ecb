/- A part. -/
import Derived.Test.YtpcgkiecjakknaaGreatDoorFK
set_option linter.all false
set_option maxRecDepth 20000
set_option maxHeartbeats 16000000
namespace Mv
open Go
variable {M:Seat}
structure OkDg (M:Seat):Prop where
 p:OkDp M
 l:OkDL M
 k139:Au M 139 Ak4=true
 k141:Au M 141 Al9=true
 k143:Au M 143 Apb=true
 k145:Au M 145 Al4=true
 k146:Au M 146 Anu=true
 k148:Au M 148 Ar3=true
 k265:Au M 265 Apj=true
 k269:Au M 269 Aqz=true
 k271:Au M 271 Arr=true
def Cl.d (c:Cl):V:=.st 43 (.fcons 0 (.int .i64 c.par) (.fcons 1 (.int .i64 (Ia c.pos:Nat)) (.fcons 2 (W c.pos) (.fcons 3 (dg c.val) (.fcons 35 (.int .i64 c.pl) (.fcons 36 (.int .i64 c.bond) (.fcons 37 (W c.us) (.fcons 38 (W c.at') (.fcons 39 (.bool c.st) (.fcons 40 (.bool c.rs) (.fcons 41 (.bool c.co) (.fcons 42 (.int .i64 c.by') .fnil))))))))))))
def dgV (d:Int) (l g:BitVec 64) (s:Dg) (cs ld:V):V:=.st 37 (.fcons 0 (.int .i64 d) (.fcons 1 (W l) (.fcons 2 (W g) (.fcons 3 (dg s) (.fcons 35 cs (.fcons 36 ld .fnil))))))
def dcV (n:Nat) (c:Nat→Cl):V:=.ar 43 n fun j=>(c j).d
abbrev dgB (G:Gs):V:=dgV G.D G.l G.g G.s (.sl 1 [] 0 G.n 43) (.ptr 2 [])
def Akl (G:Gs) (a:Int):Int:=if a < 0 ∨ (G.n:Int)≤a then 4 else if (G.c a.toNat).rs=true then 43 else 0
theorem Akp (ok:OkDg M) (G:Gs) (a:Int):Ag M 265 [.ptr 0 [],.int .i64 a] [(0,dgB G),(1,dcV G.n G.c)] 3 (Q3 (.int .i64 (Akl G a)) [(0,dgB G),(1,dcV G.n G.c)] 3):=by
 unfold Akl
 refine Ab ok.k265 rfl fun x hx=>?_
 by_cases h0:a < 0
 ·rw [if_pos (.inl h0)]
  refine es 2000 ?_;(simp only [Apj,Apr,dgV,dcV,Cl.d,h0,LZ,seval])
  have zz:=Bb @dg.eq_1 @Cl.d.eq_1;exact Bf hx [0,1,2] ⟨rfl,rfl,rfl⟩
 by_cases h1:(G.n:Int)≤a
 ·rw [if_pos (.inr h1)]
  refine es 2000 ?_;(simp only [Apj,Apr,dgV,dcV,Cl.d,h0,h1,LZ,seval])
  have zz:=Bb @dg.eq_1 @Cl.d.eq_1;exact Bf hx [0,1,2] ⟨rfl,rfl,rfl⟩
 rw [if_neg Aa]
 obtain ⟨p,rfl⟩:∃ p:Nat,a=p:=⟨a.toNat,by omega⟩
 rw [Int.toNat_natCast]
 have d2:((p:Int) < (G.n:Int))=True:=eq_true Aa
 have d3:(0≤(p:Int))=True:=eq_true Aa
 cases hrs:(G.c p).rs
 all_goals
  refine es 2000 ?_;(simp only [Apj,Apr,dgV,dcV,Cl.d,h0,h1,d2,d3,hrs,LZ,seval])
  repeat refine sd ?_
  have zz:=Bb @dg.eq_1 @Cl.d.eq_1;exact Bf hx [0,1,2] ⟨rfl,rfl,rfl⟩
theorem Akk (ok:OkDg M) (G:Gs) (q:Cl) (hq:q.par < 0 ∨ ∃ p:Nat,q.par=p∧p < G.n) :
 Ag M 269 [.ptr 0 [],q.d] [(0,dgB G),(1,dcV G.n G.c)] 3 (Q3 (W (CQ G.c q)) [(0,dgB G),(1,dcV G.n G.c)] 3):=by
 unfold CQ
 refine Ab ok.k269 rfl fun x hx=>?_
 rcases hq with h0 | ⟨p,hp,hn⟩
 ·rw [if_pos h0]
  refine es 2000 ?_;(simp only [Aqz,Aqa,dgV,dcV,Cl.d,h0,LZ,seval])
  have zz:=Bb @dg.eq_1 @Cl.d.eq_1;exact Bf hx [0,1,2] ⟨rfl,rfl,rfl⟩
 ·have d0:((p:Int) < 0)=False:=eq_false Aa
  have d2:((p:Int) < (G.n:Int))=True:=eq_true Aa
  have d3:(0≤(p:Int))=True:=eq_true Aa
  rw [hp,if_neg Aa,Int.toNat_natCast]
  refine es 2000 ?_;(simp only [Aqz,Aqa,dgV,dcV,Cl.d,hp,d0,d2,d3,LZ,seval])
  repeat refine sd ?_
  have zz:=Bb @dg.eq_1 @Cl.d.eq_1;exact Bf hx [0,1,2] ⟨rfl,rfl,rfl⟩
def abI (o:Option Nat):Int:=match o with
 | some j=>j
 | none=>-1
theorem Alr (ok:OkDg M) (G:Gs) (hD:G.D≤20) (hp:Pls G.D G.n G.c) (hr:Prs G.n G.c) (a:Nat) (ha:a < G.n) (t:BitVec 64) :
 Ag M 271 [.ptr 0 [],.int .i64 a,W t] [(0,dgB G),(1,dcV G.n G.c)] 3 (Q3 (.int .i64 (abI (Sx G.D G.c t (a + 1) a))) [(0,dgB G),(1,dcV G.n G.c)] 3):=by
 generalize hR:Sx G.D G.c t (a + 1) a=R
 refine Ab ok.k271 rfl fun x hx=>?_
 refine es 2000 ?_;(simp only [Arr,Ast,dgV,dcV,LZ,seval])
 refine An (σ:=Int) (fun b=>(b = -1 ∨ ∃ p:Nat,b=p∧p < G.n)∧∃ f,(b + 1).toNat≤f∧Sx G.D G.c t f b=R) (fun b=>fr 43 [(0,.ptr 0 []),(1,.int .i64 b),(2,W t)]) (fun _=>[(0,dgB G),(1,dcV G.n G.c)]) (fun _=>3) (fun b=>(b + 1).toNat) a ⟨.inr ⟨a,rfl,ha⟩,a + 1,by omega,hR⟩ ?_ ?_
 ·refine Ao.fr [0,1,2] [] hx AQ Am ?_ ?_
  all_goals simp only [dgV,dcV,Cl.d,dg,implies_true,LY,seval]
 ·intro b ⟨hb,f,hf,hfb⟩
  refine es 2000 ?_
  rcases hb with rfl | ⟨p,rfl,hpn⟩
  ·have d0:(0≤(-1:Int))=False:=eq_false Aa
   have hR:R=none:=by
    cases f with
    | zero=>exact hfb.symm
    | succ f=>rw [Sx,if_pos Aa] at hfb;exact hfb.symm
   subst hR
   (simp only [d0,LZ,seval])
   have zz:=Db @abI.eq_1 @abI.eq_2 @dgV.eq_1 @dcV.eq_1 @Cl.d.eq_1 @dg.eq_1;exact Bf hx [0,1,2] ⟨rfl,rfl,rfl⟩
  ·obtain ⟨k,i,hk,hi,hpos⟩:=hp p hpn
   have hT:=Akx ok.p (show G.D≤24 by omega) hk hi
   have d0:(0≤(p:Int))=True:=eq_true Aa
   have d1:((p:Int) < (G.n:Int))=True:=eq_true Aa
   have hpar:=hr p hpn
   obtain ⟨f,rfl⟩:∃ f',f=f' + 1:=⟨f - 1,by omega⟩
   rw [Sx,if_neg Aa,Int.toNat_natCast,hpos,PU Aa hi] at hfb
   generalize BitVec.ofNat 64 (Zp G.D k i)=w at *
   (simp only [d0,d1,dgV,dcV,Cl.d,hpos,LZ,seval])
   repeat refine sd ?_
   refine Bq (hT) ?_
   by_cases hw:w=t
   ·rw [if_pos hw] at hfb
    subst hfb
    (simp only [AH,hw,d0,d1,dgV,dcV,Cl.d,hpos,seval])
    have zz:=aq7 @abI.eq_1 @abI.eq_2 @Cl.d.eq_1 @dcV.eq_1 @dgV.eq_1 @dg.eq_1 hpos;exact Bf hx [0,1,2] ⟨rfl,rfl,rfl⟩
   ·rw [if_neg hw] at hfb
    have hw:=eq_false hw
    (simp only [AH,hw,d0,d1,dgV,dcV,Cl.d,hpos,seval])
    repeat refine sd ?_
    have e1:((p:Int) + 1).toNat=p + 1:=rfl
    rw [e1] at hf
    have e2:((G.c p).par + 1).toNat≤p:=by
     rcases hpar with h | ⟨q,h,h1⟩
     ·rw [h];exact Nat.zero_le _
     ·rw [h];exact h1
    refine ⟨(G.c p).par,hpar.imp_right (fun ⟨q,h,h1⟩=>⟨q,h,by omega⟩),⟨f,by omega,hfb⟩,by rw [e1];omega,?_⟩
    refine Ao.fr [0,1,2] [] hx AQ Am ?_ ?_
    all_goals simp only [dgV,dcV,Cl.d,dg,hpos,implies_true,LY,seval]
theorem Alo (ok:OkDg M) (G:Gs) (w:G.wf) (a:Nat) (ha:a < G.n) :
 Ag M 143 [.ptr 0 [],.int .i64 a,.bool false] [(0,dgB G),(1,dcV G.n G.c)] 3 (Q3 (HT (dg (G.enA a)) (dg (G.c a).val) (.bool true) (.int .i64 0)) [(0,dgB G),(1,dcV G.n G.c)] 3):=by
 obtain ⟨k,i,hk,hi,hpos⟩:=w.pls a ha
 have hD:=w.hD
 have hT:=Akx ok.p (show G.D≤24 by omega) hk hi
 have hA:=Alr ok G w.hD w.pls w.prs a ha (Ys G.D (G.c a).pos - 1#64)
 have hlt:=fun j=>PW (D:=G.D) w.prs (Ys G.D (G.c a).pos - 1#64) (a + 1) a j ha
 unfold Gs.enA
 rw [hpos,PU Aa hi] at hA hlt ⊢
 generalize BitVec.ofNat 64 (Zp G.D k i)=w at *
 have d1:((a:Int) < (G.n:Int))=True:=eq_true Aa
 have d2:(0≤(a:Int))=True:=eq_true Aa
 refine Ab ok.k143 rfl fun x hx=>?_
 by_cases hw:0#64 < w
 ·have hw':=eq_true hw
  rw [if_pos hw]
  generalize Sx G.D G.c (w - 1#64) (a + 1) a=R at *
  refine es 2000 ?_;(simp only [Apb,Aop,dgV,dcV,Cl.d,hpos,d1,d2,LZ,seval])
  repeat refine sd ?_
  refine Bq (hT) ?_
  (simp only [AH,hw',seval])
  cases R with
  | none =>
    simp only [abI] at hA
    have zz:=Ka @dgV.eq_1 @dcV.eq_1 @Cl.d.eq_1 @dg.eq_1;refine Bw [0,1,2] [0,1] (hA) ?_
    (simp only [dgV,dcV,Cl.d,seval,Ws,LZ,reduceCtorEq])
    have zz:=C4 @HT.eq_1 @dg.eq_1 @Cl.d.eq_1;exact Bf hx [0,1,2] ⟨rfl,rfl,rfl⟩
  | some j =>
    simp only [abI] at hA
    have hj:=(hlt j rfl).1
    have d3:(0≤(j:Int))=True:=eq_true Aa
    have d4:((j:Int) < (G.n:Int))=True:=eq_true Aa
    have zz:=Ka @dgV.eq_1 @dcV.eq_1 @Cl.d.eq_1 @dg.eq_1;refine Bw [0,1,2] [0,1] (hA) ?_
    (simp only [dgV,dcV,Cl.d,d3,d4,LZ,seval])
    repeat refine sd ?_
    have zz:=C4 @HT.eq_1 @dg.eq_1 @Cl.d.eq_1;exact Bf hx [0,1,2] ⟨rfl,rfl,rfl⟩
 ·have hw':=eq_false hw
  rw [if_neg hw]
  refine es 2000 ?_;(simp only [Apb,Aop,dgV,dcV,Cl.d,hpos,d1,d2,LZ,seval])
  repeat refine sd ?_
  refine Bq (hT) ?_
  (simp only [AH,hw',seval])
  have zz:=C4 @HT.eq_1 @dg.eq_1 @Cl.d.eq_1;exact Bf hx [0,1,2] ⟨rfl,rfl,rfl⟩
def Gs.denD (G:Gs) (a:Nat):V:=match G.enJ a with
 | none=>HT (dg Dg.zero) (dg Dg.zero) (.bool false) (.int .i64 45)
 | some j=>HT (dg (G.c a).val) (dg (G.c j).val) (.bool (decide ((((Ia (G.c j).pos:Nat):Int) - ((Ia (G.c a).pos:Nat):Int)).tmod 2=0))) (.int .i64 0)
theorem Alt (ok:OkDg M) (G:Gs) (w:G.wf) (a:Nat) (ha:a < G.n) :
 Ag M 143 [.ptr 0 [],.int .i64 a,.bool true] [(0,dgB G),(1,dcV G.n G.c)] 3 (Q3 (G.denD a) [(0,dgB G),(1,dcV G.n G.c)] 3):=by
 obtain ⟨k,i,hk,hi,hpos⟩:=w.pls a ha
 have hD:=w.hD
 have hT:=Akx ok.p (show G.D≤24 by omega) hk hi
 have hA:=Alr ok G w.hD w.pls w.prs a ha (Ys G.D (G.c a).pos + 1#64)
 have hlt:=fun j=>PW (D:=G.D) w.prs (Ys G.D (G.c a).pos + 1#64) (a + 1) a j ha
 have hdp:∀ j,j < G.n→Ia (G.c j).pos≤20:=fun j hj=>by
  obtain ⟨k2,i2,hk2,hi2,hpos2⟩:=w.pls j hj
  rw [hpos2,Cr Aa hi2];omega
 have hda:=hdp a ha
 unfold Gs.denD Gs.enJ
 have hpos':=hpos
 rw [hpos,PU Aa hi] at hA hlt
 rw [show Ys G.D (G.c a).pos=BitVec.ofNat 64 (Zp G.D k i) by rw [hpos,PU Aa hi]]
 generalize hda':Ia (G.c a).pos=da at *
 have hda2:Ia (pw k i)=da:=by rw [← hpos];exact hda'
 generalize BitVec.ofNat 64 (Zp G.D k i)=w at *
 have d1:((a:Int) < (G.n:Int))=True:=eq_true Aa
 have d2:(0≤(a:Int))=True:=eq_true Aa
 generalize Sx G.D G.c (w + 1#64) (a + 1) a=R at *
 refine Ab ok.k143 rfl fun x hx=>?_
 cases R with
 | none =>
   simp only [abI] at hA ⊢
   refine es 2000 ?_;(simp only [Apb,Aop,dgV,dcV,Cl.d,hda',hda2,hpos,d1,d2,LZ,seval])
   repeat refine sd ?_
   refine Bq (hT) ?_
   (simp only [AH,seval])
   have zz:=Db @dgV.eq_1 @dcV.eq_1 @Cl.d.eq_1 hda' hda2 @dg.eq_1;refine Bw [0,1,2] [0,1] (hA) ?_
   (simp only [dgV,dcV,Cl.d,seval,Ws,LZ,reduceCtorEq])
   have zz:=C4 @HT.eq_1 @dg.eq_1 @Cl.d.eq_1;exact Bf hx [0,1,2] ⟨rfl,rfl,rfl⟩
 | some j =>
   simp only [abI] at hA ⊢
   have hj:=(hlt j rfl).1
   have hdj:=hdp j hj
   have d3:((j:Int) < 0)=False:=eq_false Aa
   have d5:(0≤(j:Int))=True:=eq_true Aa
   have d4:((j:Int) < (G.n:Int))=True:=eq_true Aa
   have zw:IntKind.i64.wrap (((Ia (G.c j).pos:Nat):Int) - (da:Int))=((Ia (G.c j).pos:Nat):Int) - (da:Int):=by rw [AY Aa]
   refine es 2000 ?_;(simp only [Apb,Aop,dgV,dcV,Cl.d,hda',hda2,hpos,d1,d2,LZ,seval])
   repeat refine sd ?_
   refine Bq (hT) ?_
   (simp only [AH,seval])
   have zz:=Db @dgV.eq_1 @dcV.eq_1 @Cl.d.eq_1 hda' hda2 @dg.eq_1;refine Bw [0,1,2] [0,1] (hA) ?_
   (simp only [dgV,dcV,Cl.d,hda',hda2,d3,d4,d5,zw,LZ,seval])
   repeat refine sd ?_
   have zz:=C4 @HT.eq_1 @dg.eq_1 @Cl.d.eq_1;exact Bf hx [0,1,2] ⟨rfl,rfl,rfl⟩
theorem Amw (ok:OkDg M) (G:Gs) (hn:0 < G.n) :
 Ag M 148 [.ptr 0 []] [(0,dgB G),(1,dcV G.n G.c)] 3 (Q3 (.int .i64 (if (G.c 0).rs=true then (if (G.c 0).co=true then 2 else 1) else 0)) [(0,dgB G),(1,dcV G.n G.c)] 3):=by
 have d2:((0:Int) < (G.n:Int))=True:=eq_true Aa
 refine Ab ok.k148 rfl fun x hx=>?_
 cases hrs:(G.c 0).rs <;> cases hco:(G.c 0).co
 all_goals
  refine es 2000 ?_;(simp only [Ar3,Ask,dgV,dcV,Cl.d,d2,hrs,hco,LZ,seval])
  repeat refine sd ?_
  have zz:=Bb @dg.eq_1 @Cl.d.eq_1;exact Bf hx [0,1,2] ⟨rfl,rfl,rfl⟩
variable {M:Seat}
def Gs.mE (G:Gs) (a:Int) (df:Bool) (v:Dg) (pl:Int) (bd t:BitVec 64):Option Int :=
 if a < 0 ∨ (G.n:Int)≤a then some 4
 else if (G.c a.toNat).rs=true then some 43
 else Zs G a.toNat df v pl bd t (Ia (G.c a.toNat).pos) (Wt (G.c a.toNat).pos)
def Gs.mT (G:Gs) (a:Int) (df:Bool) (v:Dg) (pl:Int) (bd t:BitVec 64):Gs :=
 G.mv (IE G a.toNat df v pl t (Ia (G.c a.toNat).pos) (Wt (G.c a.toNat).pos)) pl.toNat bd
theorem HG (ok:OkGr M) (G:Gs) (w:G.wf) (a:Int) (df:Bool) (v:Dg) (pl:Int) (bd t:BitVec 64) (e:Int) (he:G.mE a df v pl bd t=some e) :
 Ag M 110 [.ptr 0 [],.int .i64 a,.bool df,dg v,.int .i64 pl,W bd,W t] G.H 4 (Q3 (Ah (.int .i64 0) (.ifc 145 (.ptr 4 []))) (G.H ++ [(4,Bt a e)]) 5):=by
 have hD:=w.hD
 have hn:=w.hn
 have hME:=Pw ok.t.s.v G
 have hpl:=w.pls
 have hpr:=fun {a}=>Hk (a:=a) w.prs
 have hr:=w.hr
 clear w
 unfold Gs.mE at he
 refine Ab ok.t.s.v.g.n.k110 rfl fun x hx=>?_
 by_cases h1:a < 0 ∨ (G.n:Int)≤a
 ·rw [if_pos h1] at he
  cases he
  have hF:=JO ok.t.s.v.g G.D G.l G.g G.s G.n a h1
  obtain ⟨D,l,g,s,n,c,b,ii,o,kk,vv,gv⟩:=G
  dsimp only at *
  refine es 2000 ?_;(simp only [P9,Oz,Gs.H,Ai,Al,Ac,Ap,Aq,A7,A4,Cl.v,LZ,seval])
  have zz:=aq7 @Ai.eq_1 @Al.eq_1 @Ac.eq_1 @Cl.v.eq_1 @Cl.zero.eq_1 @Bt.eq_1 @dg.eq_1;refine Om [0,1,2] [0] (hF) ?_
  (simp only [AH,Ai,Al,Ac,Cl.v,Cl.zero,Bt,seval])
  refine Ar.mk hx [0,1,2,3,84] [] (Ah (.int .i64 0) (.ifc 145 (.ptr 4 []))) _ 5 Am (by (simp only [CU,seval])) (by simp only [LV,Ah,LY,seval]) ?_ ⟨rfl,rfl,rfl⟩
  simp only [Gs.H,Ai,Al,Ac,Ap,Cl.v,Aq,A7,A4,Bt,dg,B3,LY,seval]
 rw [if_neg h1] at he
 obtain ⟨p,rfl⟩:∃ p:Nat,a=p:=⟨a.toNat,by omega⟩
 have hp:p < G.n:=Aa
 rw [Int.toNat_natCast] at he
 cases hrs:(G.c p).rs with
 | true =>
   rw [if_pos hrs] at he
   cases he
   have hF:=JT ok.t.s.v.g G.D G.l G.g G.s G.n G.c p hp hrs
   obtain ⟨D,l,g,s,n,c,b,ii,o,kk,vv,gv⟩:=G
   dsimp only at *
   refine es 2000 ?_;(simp only [P9,Oz,Gs.H,Ai,Al,Ac,Ap,Aq,A7,A4,Cl.v,LZ,seval])
   have zz:=XK @Ai.eq_1 @Al.eq_1 @Ac.eq_1 @Ap.eq_1 @Cl.v.eq_1 @Cl.zero.eq_1 @Bt.eq_1 @dg.eq_1;refine Om [0,1,2] [0,1] (hF) ?_
   (simp only [AH,Ai,Al,Ac,Ap,Cl.v,Cl.zero,Bt,seval])
   refine Ar.mk hx [0,1,2,3,84] [] (Ah (.int .i64 0) (.ifc 145 (.ptr 4 []))) _ 5 Am (by (simp only [CU,seval])) (by simp only [LV,Ah,LY,seval]) ?_ ⟨rfl,rfl,rfl⟩
   simp only [Gs.H,Ai,Al,Ac,Ap,Cl.v,Aq,A7,A4,Bt,dg,B3,LY,seval]
 | false =>
   rw [if_neg (by rw [hrs];simp)] at he
   have hF:=FT ok.t.s.v.g G.D G.l G.g G.s G.n G.c p hp hrs
   obtain ⟨k,i,hk,hi,hpos⟩:=hpl p hp
   rw [hpos,Cr Aa hi,Ej Aa hi] at he
   have hM:=hME p df v pl bd t k i Aa hr hp Aa hi hpos (hpr hp) e he
   have hA:=Fn ok.t.s.v.g p e
   simp only [Sw,Cl.v,Ac,hrs] at hM
   obtain ⟨D,l,g,s,n,c,b,ii,o,kk,vv,gv⟩:=G
   dsimp only at *
   simp only [Gs.H,Ai,Al,Ac] at hM
   refine es 2000 ?_;(simp only [P9,Oz,Gs.H,Ai,Al,Ac,Ap,Aq,A7,A4,Cl.v,LZ,seval])
   have zz:=Db @Ai.eq_1 @Al.eq_1 @Ac.eq_1 @Ap.eq_1 @Cl.v.eq_1 @dg.eq_1;refine Bw [0,1,2] [0,1] (hF) ?_
   (simp only [AH,Ai,Al,Ac,Ap,Cl.v,hrs,seval])
   have zz:=SN @Ai.eq_1 @Al.eq_1 @Ac.eq_1 @Ap.eq_1 @Aq.eq_1 @A7.eq_1 @A4.eq_1 @Cl.v.eq_1 @dg.eq_1;refine Bw [0,1,2,3] [0,1,2,3] (hM) ?_
   (simp only [AH,Ai,Al,Ac,Ap,Aq,A7,A4,Cl.v,seval])
   have zz:=@Bt.eq_1;refine Kb (hA) ?_
   (simp only [AH,Bt,seval])
   refine Ar.mk hx [0,1,2,3,532] [] (Ah (.int .i64 0) (.ifc 145 (.ptr 4 []))) _ 5 Am (by (simp only [CU,seval])) (by simp only [LV,Ah,LY,seval]) ?_ ⟨rfl,rfl,rfl⟩
   simp only [Gs.H,Ai,Al,Ac,Ap,Cl.v,Aq,A7,A4,Bt,dg,hrs,B3,LY,seval]
theorem Gs.mE_in {G:Gs} {a:Int} {df:Bool} {v:Dg} {pl:Int} {bd t:BitVec 64} (h:G.mE a df v pl bd t=none):∃ p:Nat,a=p∧p < G.n∧(G.c p).rs=false∧Zs G p df v pl bd t (Ia (G.c p).pos) (Wt (G.c p).pos)=none:=by
 unfold Gs.mE at h
 by_cases h1:a < 0 ∨ (G.n:Int)≤a
 ·rw [if_pos h1] at h;cases h
 rw [if_neg h1] at h
 obtain ⟨p,rfl⟩:∃ p:Nat,a=p:=⟨a.toNat,by omega⟩
 rw [Int.toNat_natCast] at h
 cases hrs:(G.c p).rs with
 | true=>rw [if_pos hrs] at h;cases h
 | false=>rw [if_neg (by rw [hrs];simp)] at h;exact ⟨p,rfl,by omega,hrs,h⟩
theorem HF (ok:OkGr M) (G:Gs) (w:G.wf) (a:Int) (df:Bool) (v:Dg) (pl:Int) (bd t:BitVec 64) (he:G.mE a df v pl bd t=none) :
 Ag M 110 [.ptr 0 [],.int .i64 a,.bool df,dg v,.int .i64 pl,W bd,W t] G.H 4 (Q3 (Ah (.int .i64 (G.n:Int)) .nili) ((G.mT a df v pl bd t).H2) 6):=by
 obtain ⟨p,rfl,hp,hrs,he⟩:=Gs.mE_in he
 have hD:=w.hD
 have hn:=w.hn
 obtain ⟨k,i,hk,hi,hpos⟩:=w.pls p hp
 have hM:=OE ok.t.s.v G p df v pl bd t k i Aa w.hr hp Aa hi hpos (Hk w.prs hp) (by rw [hpos,Cr Aa hi,Ej Aa hi] at he;exact he)
 have hF:=FT ok.t.s.v.g G.D G.l G.g G.s G.n G.c p hp hrs
 have hA:=FB ok.t.s.v.g p
 have hT:G.mT p df v pl bd t=G.mv (IE G p df v pl t k i) pl.toNat bd:=by rw [Gs.mT,Int.toNat_natCast,hpos,Cr Aa hi,Ej Aa hi]
 rw [hT]
 clear w he hT
 unfold Gs.mv IE clN at *
 simp only [Gs.H2,Sw,Cl.v,Ac,hrs] at hM ⊢
 generalize Ks k i df=q at *
 generalize YI (CQ G.c (G.c p) + t - (G.c p).at') (G.l - G.g)=u at *
 obtain ⟨D,l,g,s,n,c,b,ii,o,kk,vv,gv⟩:=G
 dsimp only at *
 simp only [Gs.H,Ai,Al,Ac] at hM
 refine Ab ok.t.s.v.g.n.k110 rfl fun x hx=>?_
 refine es 2000 ?_;(simp only [P9,Oz,Gs.H,Ai,Al,Ac,Ap,Aq,A7,A4,Cl.v,LZ,seval])
 have zz:=Db @Ai.eq_1 @Al.eq_1 @Ac.eq_1 @Ap.eq_1 @Cl.v.eq_1 @dg.eq_1;refine Bw [0,1,2] [0,1] (hF) ?_
 (simp only [AH,Ai,Al,Ac,Ap,Cl.v,hrs,seval])
 have zz:=SN @Ai.eq_1 @Al.eq_1 @Ac.eq_1 @Ap.eq_1 @Aq.eq_1 @A7.eq_1 @A4.eq_1 @Cl.v.eq_1 @dg.eq_1;refine Bw [0,1,2,3] [0,1,2,3] (hM) ?_
 (simp only [AH,Ai,Al,Ac,Ap,Aq,A7,A4,Cl.v,seval])
 refine Ak (hA) ?_
 (simp only [AH,seval])
 refine Ar.mk hx [0,1,2,3,388,389] [] (Ah (.int .i64 n) .nili) _ 6 Am (by (simp only [CU,seval])) (by simp only [LV,Ah,LY,seval]) ?_ ⟨rfl,rfl,rfl⟩
 simp only [Ai,Al,Ac,Ap,Cl.v,Aq,A7,A4,dg,LY,seval]
 (repeat' apply And.intro)
 all_goals
  intro j hj
  by_cases h:j < n
  ·simp only [h,if_true,LY,seval]
  ·simp only [h,if_false,LY,seval]
def Gs.tE (G:Gs) (vf:Dg→Dg × Option Int) (a:Int) (df:Bool) (pl:Int) (t:BitVec 64):Option Int :=
 if a < 0 ∨ (G.n:Int)≤a then some 4
 else if (G.c a.toNat).rs=true then some 43
 else G.stE vf a.toNat df pl t
def Gs.tT (G:Gs) (a:Int) (pl:Int):Gs:={ G with c:=fun j=>if j=a.toNat then { G.c a.toNat with st:=true,by':=pl } else G.c j }
theorem JK (ok:OkGr M) (G:Gs) (w:G.wf) (vf:Dg→Dg × Option Int) (R:Dg) (hd:Hd) (L:List Pf) (pr:Pr)
 (hV:∀ C,Ag M 98 [dg C,BI R hd L pr] [] 0 (Q3 (Ah (dg (vf C).1) (B7 (vf C).2)) [] 0)) (a:Int) (df:Bool) (pl:Int) (t:BitVec 64) :
 (∀ e,G.tE vf a df pl t=some e→Ag M 114 [.ptr 0 [],.int .i64 a,.bool df,BI R hd L pr,.int .i64 pl,W t] G.H 4 (Q3 (.ifc 145 (.ptr 4 [])) (G.H ++ [(4,Bt a e)]) 5)) ∧
 (G.tE vf a df pl t=none→Ag M 114 [.ptr 0 [],.int .i64 a,.bool df,BI R hd L pr,.int .i64 pl,W t] G.H 4 (Q3 .nili ((G.tT a pl).H) 4)):=by
 have hD:=w.hD
 have hn:=w.hn
 unfold Gs.tE
 by_cases h1:a < 0 ∨ (G.n:Int)≤a
 ·rw [if_pos h1]
  refine ⟨fun e he=>?_,fun h=>by cases h⟩
  cases he
  have hF:=JO ok.t.s.v.g G.D G.l G.g G.s G.n a h1
  clear w
  obtain ⟨D,l,g,s,n,c,b,ii,o,kk,vv,gv⟩:=G
  dsimp only at *
  refine Ab ok.t.s.v.g.n.k114 rfl fun x hx=>?_
  refine es 2000 ?_;(simp only [UF,Uz,Gs.H,Ai,Al,Ac,Ap,Aq,A7,A4,Cl.v,BI,Hd.v,CR,seval])
  have zz:=aq7 @Ai.eq_1 @Al.eq_1 @Ac.eq_1 @Cl.v.eq_1 @Cl.zero.eq_1 @Bt.eq_1 @dg.eq_1;refine Om [0,1,2] [0] (hF) ?_
  (simp only [AH,Ai,Al,Ac,Cl.v,Cl.zero,Bt,seval])
  refine Ar.mk hx [0,1,2,3,68] [] (.ifc 145 (.ptr 4 [])) _ 5 Am (by (simp only [CU,seval])) (by simp only [LV,Ah,LY,seval]) ?_ ⟨rfl,rfl,rfl⟩
  simp only [Gs.H,Ai,Al,Ac,Ap,Cl.v,Aq,A7,A4,Bt,dg,B3,LY,seval]
 rw [if_neg h1]
 obtain ⟨p,rfl⟩:∃ p:Nat,a=p:=⟨a.toNat,by omega⟩
 have hp:p < G.n:=Aa
 rw [Int.toNat_natCast]
 cases hrs:(G.c p).rs with
 | true =>
   rw [if_pos rfl]
   refine ⟨fun e he=>?_,fun h=>by cases h⟩
   cases he
   have hF:=JT ok.t.s.v.g G.D G.l G.g G.s G.n G.c p hp hrs
   clear w
   obtain ⟨D,l,g,s,n,c,b,ii,o,kk,vv,gv⟩:=G
   dsimp only at *
   refine Ab ok.t.s.v.g.n.k114 rfl fun x hx=>?_
   refine es 2000 ?_;(simp only [UF,Uz,Gs.H,Ai,Al,Ac,Ap,Aq,A7,A4,Cl.v,BI,Hd.v,CR,seval])
   have zz:=XK @Ai.eq_1 @Al.eq_1 @Ac.eq_1 @Ap.eq_1 @Cl.v.eq_1 @Cl.zero.eq_1 @Bt.eq_1 @dg.eq_1;refine Om [0,1,2] [0,1] (hF) ?_
   (simp only [AH,Ai,Al,Ac,Ap,Cl.v,Cl.zero,Bt,seval])
   refine Ar.mk hx [0,1,2,3,68] [] (.ifc 145 (.ptr 4 [])) _ 5 Am (by (simp only [CU,seval])) (by simp only [LV,Ah,LY,seval]) ?_ ⟨rfl,rfl,rfl⟩
   simp only [Gs.H,Ai,Al,Ac,Ap,Cl.v,Aq,A7,A4,Bt,dg,B3,LY,seval]
 | false =>
   rw [if_neg Am]
   have hF:=FT ok.t.s.v.g G.D G.l G.g G.s G.n G.c p hp hrs
   have hS:=SH ok.t G w vf R hd L pr hV p hp df pl t
   generalize G.stE vf p df pl t=E at *
   clear w hV
   obtain ⟨D,l,g,s,n,c,b,ii,o,kk,vv,gv⟩:=G
   dsimp only [Gs.tT] at *
   simp only [Int.toNat_natCast]
   simp only [Cl.v,Ac,hrs] at hS
   simp only [Gs.H,Ai,Al,Ac] at hS
   simp only [BI,Hd.v,AM] at hS
   have hA:=fun e=>Fn ok.t.s.v.g p e
   cases E with
   | some e =>
     refine ⟨fun e' he=>?_,fun h=>by cases h⟩
     cases he
     simp only [Aw] at hS
     refine Ab ok.t.s.v.g.n.k114 rfl fun x hx=>?_
     refine es 2000 ?_;(simp only [UF,Uz,Gs.H,Ai,Al,Ac,Ap,Aq,A7,A4,Cl.v,BI,Hd.v,CR,seval])
     have zz:=Db @Ai.eq_1 @Al.eq_1 @Ac.eq_1 @Ap.eq_1 @Cl.v.eq_1 @dg.eq_1;refine Bw [0,1,2] [0,1] (hF) ?_
     (simp only [AH,Ai,Al,Ac,Ap,Cl.v,hrs,seval])
     have zz:=Ho @Ai.eq_1 @Al.eq_1 @Ac.eq_1 @Ap.eq_1 @Aq.eq_1 @A7.eq_1 @A4.eq_1 @Cl.v.eq_1 @dg.eq_1 Fs;refine Bw [0,1,2,3] [0,1,2,3] (hS) ?_
     (simp only [AH,Ai,Al,Ac,Ap,Aq,A7,A4,Cl.v,seval])
     have zz:=@Bt.eq_1;refine Kb (hA e) ?_
     (simp only [AH,Bt,seval])
     refine Ar.mk hx [0,1,2,3,420] [] (.ifc 145 (.ptr 4 [])) _ 5 Am (by (simp only [CU,seval])) (by simp only [LV,Ah,LY,seval]) ?_ ⟨rfl,rfl,rfl⟩
     simp only [Gs.H,Ai,Al,Ac,Ap,Cl.v,Aq,A7,A4,Bt,dg,hrs,B3,LY,seval]
   | none =>
     refine ⟨fun e' he=>(by cases he),fun _=>?_⟩
     simp only [B0] at hS
     have d2:((p:Int) < (n:Int))=True:=eq_true Aa
     have d3:(0≤(p:Int))=True:=eq_true Aa
     refine Ab ok.t.s.v.g.n.k114 rfl fun x hx=>?_
     refine es 2000 ?_;(simp only [UF,Uz,Gs.H,Ai,Al,Ac,Ap,Aq,A7,A4,Cl.v,BI,Hd.v,CR,seval])
     have zz:=Db @Ai.eq_1 @Al.eq_1 @Ac.eq_1 @Ap.eq_1 @Cl.v.eq_1 @dg.eq_1;refine Bw [0,1,2] [0,1] (hF) ?_
     (simp only [AH,Ai,Al,Ac,Ap,Cl.v,hrs,seval])
     have zz:=Ho @Ai.eq_1 @Al.eq_1 @Ac.eq_1 @Ap.eq_1 @Aq.eq_1 @A7.eq_1 @A4.eq_1 @Cl.v.eq_1 @dg.eq_1 Fs;refine Bw [0,1,2,3] [0,1,2,3] (hS) ?_
     (simp only [AH,Ai,Al,Ac,Ap,Aq,A7,A4,Cl.v,d2,d3,seval])
     repeat refine sd ?_
     refine Ar.mk hx [0,1,2,3] [] .nili _ 4 Am (by (simp only [CU,seval])) (by simp only [LV,Ah,LY,seval]) ?_ ⟨rfl,rfl,rfl⟩
     simp only [Gs.H,Ai,Al,Ac,Ap,Cl.v,Aq,A7,A4,dg,LY,seval]
     intro j hj
     by_cases h:j=p
     ·subst h
      simp only [if_true,hrs,LY,seval]
     ·simp only [h,if_false,LY,seval]
def Gs.rE (G:Gs) (a:Int) (t:BitVec 64):Option Int :=
 if a < 0 ∨ (G.n:Int)≤a then some 4
 else if (G.c a.toNat).rs=true then some 41
 else G.rsE a.toNat t
structure Gs.bd (G:Gs):Prop where
 bond:∀ j,j < G.n→(G.c j).bond=j∧G.gv j=(G.c j).rs
 by':∀ j,j < G.n→∃ p:Nat,p < 8∧(G.c j).by'=p
 pl:∀ j,j < G.n→∃ p:Nat,p < 8∧(G.c j).pl=p
theorem Gs.rsB_lt {G:Gs} (h:G.bd) {a:Nat} (ha:a < G.n):∃ p:Nat,p < 8∧G.rsB a=p:=by
 unfold Gs.rsB
 cases hb:Cc G.c a G.n with
 | none=>exact h.by' a ha
 | some j =>
   dsimp only
   split
   ·exact h.by' a ha
   ·exact h.pl j (Gi _ _ _ _ hb).1
theorem DE (ok:OkGr M) (G:Gs) (w:G.wf) (wb:G.bd) (a:Int) (t:BitVec 64) :
 (∀ e,G.rE a t=some e→Ag M 115 [.ptr 0 [],.int .i64 a,W t] G.H 4 (Q3 (.ifc 145 (.ptr 4 [])) (G.H ++ [(4,Bt a e)]) 5)) ∧
 (G.rE a t=none→Ag M 115 [.ptr 0 [],.int .i64 a,W t] G.H 4 (Q3 .nili ((G.rsv a.toNat).H) 4)):=by
 have hD:=w.hD
 have hn:=w.hn
 have hA:=fun e=>Fn ok.t.s.v.g a e
 have hA0:=FB ok.t.s.v.g a
 have key:∀ e,(Ag M 252 [.ptr 0 [],.int .i64 a,W t] G.H 4 (Q3 (er e) G.H 4))→Ag M 115 [.ptr 0 [],.int .i64 a,W t] G.H 4 (Q3 (.ifc 145 (.ptr 4 [])) (G.H ++ [(4,Bt a e)]) 5):=fun e hR=>by
  have hA:=hA e
  clear hA0 w wb
  obtain ⟨D,l,g,s,n,c,b,ii,o,kk,vv,gv⟩:=G
  dsimp only at *
  simp only [Gs.H,Ai,Al,Ac] at hR
  refine Ab ok.t.s.v.g.n.k115 rfl fun x hx=>?_
  refine es 2000 ?_;(simp only [Aaz,Abm,Gs.H,Ai,Al,Ac,Ap,Aq,A7,A4,Cl.v,LZ,seval])
  have zz:=SN @Ai.eq_1 @Al.eq_1 @Ac.eq_1 @Ap.eq_1 @Aq.eq_1 @A7.eq_1 @A4.eq_1 @Cl.v.eq_1 @dg.eq_1;refine Bw [0,1,2,3] [0,1,2,3] (hR) ?_
  (simp only [Ai,Al,Ac,Ap,Aq,A7,A4,Cl.v,LZ,seval])
  have zz:=@Bt.eq_1;refine Kb (hA) ?_
  (simp only [Bt,LZ,seval])
  refine Ar.mk hx [0,1,2,3,132] [] (.ifc 145 (.ptr 4 [])) _ 5 Am (by (simp only [CU,seval])) (by simp only [LV,Ah,LY,seval]) ?_ ⟨rfl,rfl,rfl⟩
  simp only [Gs.H,Ai,Al,Ac,Ap,Cl.v,Aq,A7,A4,Bt,dg,B3,LY,seval]
 unfold Gs.rE
 by_cases h1:a < 0 ∨ (G.n:Int)≤a
 ·rw [if_pos h1]
  refine ⟨fun e he=>?_,fun h=>by cases h⟩
  cases he
  refine key 4 ?_
  clear key hA hA0 w wb
  obtain ⟨D,l,g,s,n,c,b,ii,o,kk,vv,gv⟩:=G
  dsimp only at *
  refine Ab ok.k252 rfl fun x hx=>?_
  by_cases h0:a < 0
  ·refine es 2000 ?_;(simp only [UR,T7,Gs.H,Ai,Al,Ac,Ap,Aq,A7,A4,Cl.v,h0,LZ,seval])
   have zz:=Bb @dg.eq_1 @Cl.v.eq_1;exact Bf hx [0,1,2,3] ⟨rfl,rfl,rfl⟩
  ·have h1:(n:Int)≤a:=h1.resolve_left h0
   refine es 2000 ?_;(simp only [UR,T7,Gs.H,Ai,Al,Ac,Ap,Aq,A7,A4,Cl.v,h0,h1,LZ,seval])
   have zz:=Bb @dg.eq_1 @Cl.v.eq_1;exact Bf hx [0,1,2,3] ⟨rfl,rfl,rfl⟩
 rw [if_neg h1]
 obtain ⟨p,rfl⟩:∃ p:Nat,a=p:=⟨a.toNat,by omega⟩
 have hp:p < G.n:=Aa
 rw [Int.toNat_natCast]
 cases hrs:(G.c p).rs with
 | true =>
   rw [if_pos rfl]
   refine ⟨fun e he=>?_,fun h=>by cases h⟩
   cases he
   refine key 41 ?_
   clear key hA hA0 w wb
   obtain ⟨D,l,g,s,n,c,b,ii,o,kk,vv,gv⟩:=G
   dsimp only at *
   have d0:((p:Int) < 0)=False:=eq_false Aa
   have d1:((n:Int)≤(p:Int))=False:=eq_false Aa
   have d2:((p:Int) < (n:Int))=True:=eq_true Aa
   have d3:(0≤(p:Int))=True:=eq_true Aa
   refine Ab ok.k252 rfl fun x hx=>?_
   refine es 2000 ?_;(simp only [UR,T7,Gs.H,Ai,Al,Ac,Ap,Aq,A7,A4,Cl.v,d0,d1,d2,d3,hrs,LZ,seval])
   repeat refine sd ?_
   have zz:=Bb @dg.eq_1 @Cl.v.eq_1;exact Bf hx [0,1,2,3] ⟨rfl,rfl,rfl⟩
 | false =>
   rw [if_neg Am]
   have hR:=L3 ok G w p hp hrs (wb.bond p hp).1 ((wb.bond p hp).2.trans hrs) (G.rsB_lt wb hp) t
   cases hE:G.rsE p t with
   | some e =>
     rw [hE] at hR
     refine ⟨fun e' he=>?_,fun h=>by cases h⟩
     cases he
     exact key e hR
   | none =>
     rw [hE] at hR
     refine ⟨fun e' he=>(by cases he),fun _=>?_⟩
     clear key hA w wb
     simp only [B0] at hR
     generalize G.rsv p=X at *
     obtain ⟨D,l,g,s,n,c,b,ii,o,kk,vv,gv⟩:=G
     obtain ⟨D',l',g',s',n',c',b',ii',o',kk',vv',gv'⟩:=X
     dsimp only at *
     simp only [Gs.H,Ai,Al,Ac] at hR
     refine Ab ok.t.s.v.g.n.k115 rfl fun x hx=>?_
     refine es 2000 ?_;(simp only [Aaz,Abm,Gs.H,Ai,Al,Ac,Ap,Aq,A7,A4,Cl.v,LZ,seval])
     have zz:=SN @Ai.eq_1 @Al.eq_1 @Ac.eq_1 @Ap.eq_1 @Aq.eq_1 @A7.eq_1 @A4.eq_1 @Cl.v.eq_1 @dg.eq_1;refine Bw [0,1,2,3] [0,1,2,3] (hR) ?_
     (simp only [Ai,Al,Ac,Ap,Aq,A7,A4,Cl.v,LZ,seval])
     refine Ak (hA0) ?_
     (simp only [LZ,seval])
     have zz:=Bb @dg.eq_1 @Cl.v.eq_1;exact Bf hx [0,1,2,3] ⟨rfl,rfl,rfl⟩
theorem BW (ok:OkGr M) (d:Int) (l g:BitVec 64) (s:Dg) (n:Nat) (c:Nat→Cl) (a:Nat) (ha:a < n) :
 Ag M 111 [.ptr 0 [],.int .i64 a] [(0,Ai d l g s (.ptr 2 []) (.sl 1 [] 0 n 42)),(1,Ap n c)] 3 (Q3 (Ah (c a).v .nili) [(0,Ai d l g s (.ptr 2 []) (.sl 1 [] 0 n 42)),(1,Ap n c)] 3):=by
 have d0:((a:Int) < 0)=False:=eq_false Aa
 have d1:((n:Int)≤(a:Int))=False:=eq_false Aa
 have d2:((a:Int) < (n:Int))=True:=eq_true Aa
 have d3:(0≤(a:Int))=True:=eq_true Aa
 refine Ab ok.t.s.v.g.n.k111 rfl fun x hx=>?_
 refine es 2000 ?_;(simp only [V3,U9,Ai,Al,Ac,Ap,Cl.v,d0,d1,d2,d3,LZ,seval])
 repeat refine sd ?_
 have zz:=Ka @Ah.eq_1 @dg.eq_1 @Cl.v.eq_1 @Ap.eq_1;exact Bf hx [0,1,2] ⟨rfl,rfl,rfl⟩
theorem MZ (ok:OkGr M) (d:Int) (l g:BitVec 64) (s:Dg) (n:Nat) (a:Int) (ha:a < 0 ∨ (n:Int)≤a) :
 Ag M 111 [.ptr 0 [],.int .i64 a] [(0,Ai d l g s (.ptr 2 []) (.sl 1 [] 0 n 42))] 3 (Q3 (Ah Cl.zero.v (er 4)) [(0,Ai d l g s (.ptr 2 []) (.sl 1 [] 0 n 42))] 3):=by
 refine Ab ok.t.s.v.g.n.k111 rfl fun x hx=>?_
 by_cases h0:a < 0
 ·refine es 2000 ?_;(simp only [V3,U9,Ai,Al,Ac,h0,LZ,seval])
  have zz:=GM @Ah.eq_1 @dg.eq_1 @Cl.v.eq_1 @Cl.zero.eq_1 @Ac.eq_1;exact Bf hx [0,1,2] ⟨rfl,rfl,rfl⟩
 ·have h1:(n:Int)≤a:=ha.resolve_left h0
  refine es 2000 ?_;(simp only [V3,U9,Ai,Al,Ac,h0,h1,LZ,seval])
  have zz:=GM @Ah.eq_1 @dg.eq_1 @Cl.v.eq_1 @Cl.zero.eq_1 @Ac.eq_1;exact Bf hx [0,1,2] ⟨rfl,rfl,rfl⟩
theorem De (ok:OkGr M) (d:Int) (l g:BitVec 64) (s:Dg) (n:Nat) :
 Ag M 117 [.ptr 0 []] [(0,Ai d l g s (.ptr 2 []) (.sl 1 [] 0 n 42))] 3 (Q3 (.int .i64 n) [(0,Ai d l g s (.ptr 2 []) (.sl 1 [] 0 n 42))] 3):=by
 refine Ab ok.t.s.v.g.n.k117 rfl fun x hx=>?_
 refine es 2000 ?_;(simp only [Adn,Acd,Ai,Al,Ac,LZ,seval])
 have zz:=@dg.eq_1;exact Bf hx [0,1,2] ⟨rfl,rfl,rfl⟩
theorem EU (ok:OkGr M) (d:Int) (l g:BitVec 64) (s:Dg) (n:Nat) :
 Ag M 119 [.ptr 0 []] [(0,Ai d l g s (.ptr 2 []) (.sl 1 [] 0 n 42))] 3 (Q3 (Al d l g s) [(0,Ai d l g s (.ptr 2 []) (.sl 1 [] 0 n 42))] 3):=by
 refine Ab ok.t.s.v.g.n.k119 rfl fun x hx=>?_
 refine es 2000 ?_;(simp only [Ag1,Afw,Ai,Al,Ac,LZ,seval])
 have zz:=C4 @dg.eq_1 @Al.eq_1 @Ac.eq_1;exact Bf hx [0,1,2] ⟨rfl,rfl,rfl⟩
def Gs.sta (G:Gs):Int:=if (G.c 0).rs=true then (if (G.c 0).co=true then 2 else 1) else 0
theorem L1 (ok:OkGr M) (G:Gs) (hn:0 < G.n) :
 Ag M 118 [.ptr 0 []] [(0,Ai G.D G.l G.g G.s (.ptr 2 []) (.sl 1 [] 0 G.n 42)),(1,Ap G.n G.c)] 3 (Q3 (.int .i64 G.sta) [(0,Ai G.D G.l G.g G.s (.ptr 2 []) (.sl 1 [] 0 G.n 42)),(1,Ap G.n G.c)] 3):=by
 obtain ⟨D,l,g,s,n,c,b,ii,o,kk,vv,gv⟩:=G
 dsimp only [Gs.sta] at *
 have d2:((0:Int) < (n:Int))=True:=eq_true Aa
 refine Ab ok.t.s.v.g.n.k118 rfl fun x hx=>?_
 cases hrs:(c 0).rs <;> cases hco:(c 0).co
 all_goals
  refine es 2000 ?_;(simp only [Ace,Ab9,Ai,Al,Ac,Ap,Cl.v,d2,hrs,hco,LZ,seval])
  repeat refine sd ?_
  have zz:=Bb @dg.eq_1 @Cl.v.eq_1;exact Bf hx [0,1,2] ⟨rfl,rfl,rfl⟩
end Mv
