/- A part. -/
import Derived.Test.YtpcgkiecjakknaaGreatDoorDF
import Derived.Test.YtpcgkiecjakknaaGreatDoorDK
set_option linter.all false
set_option maxRecDepth 20000
set_option maxHeartbeats 16000000
namespace Mv
open Go
def HT (a b c d:V):V:=.tup (.fcons 0 a (.fcons 1 b (.fcons 2 c (.fcons 3 d .fnil))))
def Gs.enA (G:Gs) (a:Nat):Dg :=
 if 0#64 < Ys G.D (G.c a).pos then (match Sx G.D G.c (Ys G.D (G.c a).pos - 1#64) (a + 1) a with | some j=>(G.c j).val | none=>Dg.zero) else G.s
def Gs.enJ (G:Gs) (a:Nat):Option Nat:=Sx G.D G.c (Ys G.D (G.c a).pos + 1#64) (a + 1) a
theorem PW {D n:Nat} {c:Nat→Cl} (hr:Prs n c) (t:BitVec 64):∀ f (a j:Nat),a < n→Sx D c t f a=some j→j < n∧j≤a
 | 0,_,_,_,h=>by cases h
 | f + 1, a, j, ha, h => by
   rw [Sx,if_neg Aa,Int.toNat_natCast] at h
   split at h
   ·cases h;exact ⟨ha,Nat.le_refl _⟩
   ·rcases hr a ha with h1 | ⟨p,h1,hp⟩
    ·rw [h1] at h
     cases f with
     | zero=>cases h
     | succ f=>rw [Sx,if_pos Aa] at h;cases h
    ·rw [h1] at h
     obtain ⟨h2,h3⟩:=PW hr t f p j Aa h
     exact ⟨h2,by omega⟩
theorem OA {M:Seat} (ok:OkGs M) (G:Gs) (hD:G.D≤20) (hp:Pls G.D G.n G.c) (hr:Prs G.n G.c) (a:Nat) (ha:a < G.n) :
 Ag M 356 [.ptr 0 [],.int .i64 a,.bool false] [(0,Ai G.D G.l G.g G.s (.ptr 2 []) (.sl 1 [] 0 G.n 42)),(1,Ap G.n G.c)] 3 (Q3 (HT (dg (G.enA a)) (dg (G.c a).val) (.int .i64 G.D) .nili) [(0,Ai G.D G.l G.g G.s (.ptr 2 []) (.sl 1 [] 0 G.n 42)),(1,Ap G.n G.c)] 3):=by
 obtain ⟨D,l,g,s,n,c,b,ii,o,kk,vv,gv⟩:=G
 dsimp only [Gs.enA] at *
 obtain ⟨k,i,hk,hi,hpos⟩:=hp a ha
 have hT:=FA ok.v.g.p ok.k359 (show D≤24 by omega) hk hi
 have hA:=HJ ok D hD l g s n c hp hr a ha (Ys D (c a).pos - 1#64)
 rw [hpos,PU Aa hi] at hA ⊢
 generalize BitVec.ofNat 64 (Zp D k i)=w at *
 have d1:((a:Int) < (n:Int))=True:=eq_true Aa
 have d2:(0≤(a:Int))=True:=eq_true Aa
 refine Ab ok.k356 rfl fun x hx=>?_
 by_cases hw:0#64 < w
 ·have hw':=eq_true hw
  rw [if_pos hw]
  generalize Sx D c (w - 1#64) (a + 1) a=R at *
  refine es 2000 ?_;(simp only [Tw,TA,Ai,Al,Ac,Ap,Cl.v,hpos,d1,d2,LZ,seval])
  repeat refine sd ?_
  refine Bq (hT) ?_
  (simp only [AH,hw',seval])
  cases R with
  | none =>
    simp only [Yt] at hA
    have zz:=Db @Ai.eq_1 @Al.eq_1 @Ac.eq_1 @Cl.v.eq_1 @Ap.eq_1 @dg.eq_1;refine Bw [0,1,2] [0,1] (hA) ?_
    (simp only [AH,Ai,Al,Ac,Cl.v,Cl.zero,Ap,seval])
    have zz:=Ka @HT.eq_1 @dg.eq_1 @Cl.v.eq_1 @Ac.eq_1;exact Bf hx [0,1,2] ⟨rfl,rfl,rfl⟩
  | some j =>
    simp only [Yt] at hA
    have zz:=Db @Ai.eq_1 @Al.eq_1 @Ac.eq_1 @Cl.v.eq_1 @Ap.eq_1 @dg.eq_1;refine Bw [0,1,2] [0,1] (hA) ?_
    (simp only [AH,Ai,Al,Ac,Cl.v,Ap,seval])
    have zz:=Ka @HT.eq_1 @dg.eq_1 @Cl.v.eq_1 @Ac.eq_1;exact Bf hx [0,1,2] ⟨rfl,rfl,rfl⟩
 ·have hw':=eq_false hw
  rw [if_neg hw]
  refine es 2000 ?_;(simp only [Tw,TA,Ai,Al,Ac,Ap,Cl.v,hpos,d1,d2,LZ,seval])
  repeat refine sd ?_
  refine Bq (hT) ?_
  (simp only [AH,hw',seval])
  have zz:=Ka @HT.eq_1 @dg.eq_1 @Cl.v.eq_1 @Ac.eq_1;exact Bf hx [0,1,2] ⟨rfl,rfl,rfl⟩
def Gs.enD (G:Gs) (a:Nat):V:=match G.enJ a with
 | none=>HT (dg Dg.zero) (dg Dg.zero) (.int .i64 0) (er 45)
 | some j=>HT (dg (G.c a).val) (dg (G.c j).val) (.int .i64 (Ia (G.c j).pos)) .nili
theorem Ox {M:Seat} (ok:OkGs M) (G:Gs) (hD:G.D≤20) (hp:Pls G.D G.n G.c) (hr:Prs G.n G.c) (a:Nat) (ha:a < G.n) :
 Ag M 356 [.ptr 0 [],.int .i64 a,.bool true] [(0,Ai G.D G.l G.g G.s (.ptr 2 []) (.sl 1 [] 0 G.n 42)),(1,Ap G.n G.c)] 3 (Q3 (G.enD a) [(0,Ai G.D G.l G.g G.s (.ptr 2 []) (.sl 1 [] 0 G.n 42)),(1,Ap G.n G.c)] 3):=by
 obtain ⟨D,l,g,s,n,c,b,ii,o,kk,vv,gv⟩:=G
 dsimp only [Gs.enD,Gs.enJ] at *
 obtain ⟨k,i,hk,hi,hpos⟩:=hp a ha
 have hT:=FA ok.v.g.p ok.k359 (show D≤24 by omega) hk hi
 have hA:=HJ ok D hD l g s n c hp hr a ha (Ys D (c a).pos + 1#64)
 have hlt:=fun j=>PW (D:=D) hr (Ys D (c a).pos + 1#64) (a + 1) a j ha
 rw [hpos,PU Aa hi] at hA hlt ⊢
 generalize BitVec.ofNat 64 (Zp D k i)=w at *
 have d1:((a:Int) < (n:Int))=True:=eq_true Aa
 have d2:(0≤(a:Int))=True:=eq_true Aa
 generalize Sx D c (w + 1#64) (a + 1) a=R at *
 refine Ab ok.k356 rfl fun x hx=>?_
 cases R with
 | none =>
   simp only [Yt] at hA ⊢
   refine es 2000 ?_;(simp only [Tw,TA,Ai,Al,Ac,Ap,Cl.v,hpos,d1,d2,LZ,seval])
   repeat refine sd ?_
   refine Bq (hT) ?_
   (simp only [AH,seval])
   have zz:=Db @Ai.eq_1 @Al.eq_1 @Ac.eq_1 @Cl.v.eq_1 @Ap.eq_1 @dg.eq_1;refine Bw [0,1,2] [0,1] (hA) ?_
   (simp only [AH,Ai,Al,Ac,Cl.v,Cl.zero,Ap,seval])
   have zz:=Ka @HT.eq_1 @dg.eq_1 @Cl.v.eq_1 @Ac.eq_1;exact Bf hx [0,1,2] ⟨rfl,rfl,rfl⟩
 | some j =>
   simp only [Yt] at hA ⊢
   obtain ⟨k2,i2,hk2,hi2,hpos2⟩:=hp j (hlt j rfl).1
   have hP:=Bc ok.v.g.p (show k2≤24 by omega) hi2
   rw [hpos2,Cr Aa hi2]
   refine es 2000 ?_;(simp only [Tw,TA,Ai,Al,Ac,Ap,Cl.v,hpos,d1,d2,LZ,seval])
   repeat refine sd ?_
   refine Bq (hT) ?_
   (simp only [AH,seval])
   have zz:=Db @Ai.eq_1 @Al.eq_1 @Ac.eq_1 @Cl.v.eq_1 @Ap.eq_1 @dg.eq_1;refine Bw [0,1,2] [0,1] (hA) ?_
   (simp only [AH,Ai,Al,Ac,Cl.v,Ap,hpos2,seval])
   refine Ak (hP) ?_
   (simp only [AS,LZ,seval])
   have zz:=Ka @HT.eq_1 @dg.eq_1 @Cl.v.eq_1 @Ac.eq_1;exact Bf hx [0,1,2] ⟨rfl,rfl,rfl⟩
structure OkGt (M:Seat):Prop where
 s:OkGs M
 k251:Au M 251 VX=true
def Gs.stP (G:Gs) (a:Nat) (df:Bool) (pl:Int) (t:BitVec 64):Option Int :=
 if pl < 0 ∨ 8≤pl then some 2
 else if ¬ Ia (G.c a).pos=G.D then some 45
 else if df=true∧G.enJ a=none then some 45
 else if (G.c a).st=true then some 41
 else if Gy (G.c a).us (G.c a).at' (CQ G.c (G.c a)) t then some 2
 else if G.l≤CQ G.c (G.c a) + t - (G.c a).at' then some 42
 else none
def Gs.jv (G:Gs) (a:Nat):Nat:=(G.enJ a).getD a
def Gs.sA (G:Gs) (a:Nat) (df:Bool):Dg:=if df=true then (G.c a).val else G.enA a
def Gs.sB (G:Gs) (a:Nat) (df:Bool):Dg:=if df=true then (G.c (G.jv a)).val else (G.c a).val
def Gs.sD (G:Gs) (a:Nat) (df:Bool):Nat:=if df=true then Ia (G.c (G.jv a)).pos else G.D
def Gs.stE (G:Gs) (vf:Dg→Dg × Option Int) (a:Nat) (df:Bool) (pl:Int) (t:BitVec 64):Option Int :=
 match G.stP a df pl t with
 | some e=>some e
 | none => match (vf (G.sA a df)).2 with
   | some e=>some e
   | none=>if ((vf (G.sA a df)).1=G.sB a df) ↔ (G.D - G.sD a df) % 2=0 then some 46 else none
structure Gs.wf (G:Gs):Prop where
 hD:G.D≤20
 hn:G.n≤64
 hr:Oa G.l G.g
 pls:Pls G.D G.n G.c
 prs:Prs G.n G.c
theorem Hk {n:Nat} {c:Nat→Cl} (h:Prs n c) {a:Nat} (ha:a < n):(c a).par < 0 ∨ ∃ p:Nat,(c a).par=p∧p < n:=by
 rcases h a ha with h | ⟨p,h,hp⟩
 ·exact .inl Aa
 ·exact .inr ⟨p,h,by omega⟩
theorem SH {M:Seat} (ok:OkGt M) (G:Gs) (w:G.wf) (vf:Dg→Dg × Option Int) (R:Dg) (hd:Hd) (L:List Pf) (pr:Pr)
 (hV:∀ C,Ag M 98 [dg C,BI R hd L pr] [] 0 (Q3 (Ah (dg (vf C).1) (B7 (vf C).2)) [] 0)) (a:Nat) (ha:a < G.n) (df:Bool) (pl:Int) (t:BitVec 64) :
 Ag M 251 [.ptr 0 [],.int .i64 a,(G.c a).v,.bool df,BI R hd L pr,.int .i64 pl,W t] G.H 4 (Q3 (B7 (G.stE vf a df pl t)) G.H 4):=by
 have hEA:=OA ok.s G w.hD w.pls w.prs a ha
 have hED:=Ox ok.s G w.hD w.pls w.prs a ha
 have hOE:=IL ok.s G.D G.l G.g G.s G.n G.c (G.c a) t w.hr (Hk w.prs ha)
 have hOS:=J8 ok.s G.D G.l G.g G.s G.n G.c (G.c a) t w.hr (Hk w.prs ha)
 obtain ⟨k,i,hk,hi,hpos⟩:=w.pls a ha
 have hDp:Ia (G.c a).pos=k:=by rw [hpos,Cr (by have:=w.hD;omega) hi]
 have hP:=Bc ok.s.v.g.p (show k≤24 by have:=w.hD;omega) hi
 have hjl:∀ j,G.enJ a=some j→Ia (G.c j).pos≤G.D:=fun j hj=>by
  obtain ⟨k2,i2,hk2,hi2,hpos2⟩:=w.pls j (PW w.prs _ _ _ _ ha hj).1
  rw [hpos2,Cr (by have:=w.hD;omega) hi2];exact hk2
 have hD20:=w.hD
 clear w
 generalize hE:G.stE vf a df pl t=E
 unfold Gs.stE Gs.stP at hE
 unfold Gs.enD at hED
 unfold Gs.sA Gs.sB Gs.sD Gs.jv at hE
 generalize G.enA a=EA at *
 generalize G.enJ a=EJ at *
 obtain ⟨D,l,g,s,n,c,b,ii,o,kk,vv,gv⟩:=G
 dsimp only at *
 generalize CQ c (c a)=u at *
 rw [hDp] at hE
 simp only [BI,Hd.v,AM] at hV
 refine Ab ok.k251 rfl fun x hx=>?_
 by_cases h1:pl < 0 ∨ 8≤pl
 ·rw [if_pos h1] at hE
  subst hE
  have hB:=RY ok.s.le pl h1
  refine es 2000 ?_;(simp only [VX,TE,Gs.H,Ai,Al,Ac,Cl.v,Ap,Aq,A7,A4,BI,Hd.v,CR,seval])
  refine Wx [2] [] (hB) (by constructor <;> (try simp only [LY,seval]) <;> exact q1) (by simp only [LX]) ?_
  (simp only [AH,seval])
  have zz:=Ka @B7.eq_1 @B7.eq_2 @dg.eq_1 @Cl.v.eq_1;exact Bf hx [0,1,2,3] ⟨rfl,rfl,rfl⟩
 rw [if_neg h1] at hE
 obtain ⟨p,rfl⟩:∃ p:Nat,pl=p:=⟨pl.toNat,by omega⟩
 have hB:=J9 ok.s.le b ii o n kk p Aa
 by_cases h2:k=D
 case neg =>
  rw [if_pos h2] at hE
  subst hE
  have d2:((k:Int)=(D:Int))=False:=eq_false Aa
  refine es 2000 ?_;(simp only [VX,TE,Gs.H,Ai,Al,Ac,Cl.v,Ap,Aq,A7,A4,BI,Hd.v,CR,hpos,seval])
  have zz:=@Aq.eq_1;refine Bw [2,3] [2] (hB) ?_
  (simp only [AH,Aq,seval])
  refine Ak (hP) ?_
  (simp only [AS,Ai,Al,Ac,d2,LZ,seval])
  have zz:=Ka @B7.eq_1 @B7.eq_2 @dg.eq_1 @Cl.v.eq_1;exact Bf hx [0,1,2,3] ⟨rfl,rfl,rfl⟩
 rw [if_neg (fun h=>h h2)] at hE
 subst h2
 by_cases h3:df=true∧EJ=none
 ·rw [if_pos h3] at hE
  obtain ⟨rfl,rfl⟩:=h3
  subst hE
  refine es 2000 ?_;(simp only [VX,TE,Gs.H,Ai,Al,Ac,Cl.v,Ap,Aq,A7,A4,BI,Hd.v,CR,hpos,seval])
  have zz:=@Aq.eq_1;refine Bw [2,3] [2] (hB) ?_
  (simp only [AH,Aq,seval])
  refine Ak (hP) ?_
  (simp only [AS,Ai,Al,Ac,LZ,seval])
  have zz:=Db @Ai.eq_1 @Al.eq_1 @Ac.eq_1 @Cl.v.eq_1 @Ap.eq_1 @dg.eq_1;refine Bw [0,1,2] [0,1] (hED) ?_
  (simp only [HT,Ai,Al,Ac,Cl.v,Ap,LZ,seval])
  have zz:=Ka @B7.eq_1 @B7.eq_2 @dg.eq_1 @Cl.v.eq_1;exact Bf hx [0,1,2,3] ⟨rfl,rfl,rfl⟩
 rw [if_neg h3] at hE
 obtain ⟨A,B,dd,hdd,hEn,hE2⟩:∃ A B dd,dd≤k∧(Ag M 356 [.ptr 0 [],.int .i64 a,.bool df] [(0,Ai k l g s (.ptr 2 []) (.sl 1 [] 0 n 42)),(1,Ap n c)] 3 (Q3 (HT (dg A) (dg B) (.int .i64 dd) .nili) [(0,Ai k l g s (.ptr 2 []) (.sl 1 [] 0 n 42)),(1,Ap n c)] 3))
  ∧ (match (if (c a).st=true then some 41 else if Gy (c a).us (c a).at' u t then some 2 else if l≤u + t - (c a).at' then some 42 else none:Option Int) with
   | some e=>some e
   | none => match (vf A).2 with
     | some e=>some e
     | none=>if (vf A).1=B ↔ (k - dd) % 2=0 then some 46 else none)=E:=by
  cases df with
  | true =>
    cases EJ with
    | none=>exact absurd ⟨rfl,rfl⟩ h3
    | some j=>exact ⟨_,_,_,hjl j rfl,hED,hE⟩
  | false=>exact ⟨_,_,_,Nat.le_refl _,hEA,hE⟩
 clear hEA hED h3 hjl hE
 rename _=E=>hE
 refine es 2000 ?_;(simp only [VX,TE,Gs.H,Ai,Al,Ac,Cl.v,Ap,Aq,A7,A4,BI,Hd.v,CR,hpos,seval])
 have zz:=@Aq.eq_1;refine Bw [2,3] [2] (hB) ?_
 (simp only [AH,Aq,seval])
 refine Ak (hP) ?_
 (simp only [AS,Ai,Al,Ac,LZ,seval])
 have zz:=Db @Ai.eq_1 @Al.eq_1 @Ac.eq_1 @Cl.v.eq_1 @Ap.eq_1 @dg.eq_1;refine Bw [0,1,2] [0,1] (hEn) ?_
 by_cases h4:(c a).st=true
 ·rw [if_pos h4] at hE
  subst hE
  (simp only [HT,Ai,Al,Ac,Cl.v,Ap,h4,LZ,seval])
  have zz:=Db @B7.eq_1 @B7.eq_2 @dg.eq_1 @Cl.v.eq_1 h4 hpos;exact Bf hx [0,1,2,3] ⟨rfl,rfl,rfl⟩
 rw [if_neg h4] at hE
 have h4:(c a).st=false:=by simpa using h4
 (simp only [HT,Ai,Al,Ac,Cl.v,Ap,h4,LZ,seval])
 by_cases h5:Gy (c a).us (c a).at' u t
 ·rw [if_pos h5] at hE
  subst hE
  have hO:=hOE h5
  simp only [Cl.v,h4,hpos] at hO
  have zz:=XK @Ai.eq_1 @Al.eq_1 @Ac.eq_1 @Cl.v.eq_1 @Ap.eq_1 @dg.eq_1 h4 hpos;refine Bw [0,1,2] [0,1] (hO) ?_
  (simp only [AH,Ai,Al,Ac,Cl.v,Ap,seval])
  have zz:=Db @B7.eq_1 @B7.eq_2 @dg.eq_1 @Cl.v.eq_1 h4 hpos;exact Bf hx [0,1,2,3] ⟨rfl,rfl,rfl⟩
 rw [if_neg h5] at hE
 have hO:=hOS h5
 simp only [Cl.v,h4,hpos] at hO
 by_cases h6:l≤u + t - (c a).at'
 ·rw [if_pos h6] at hE
  subst hE
  rw [decide_eq_true h6] at hO
  have zz:=XK @Ai.eq_1 @Al.eq_1 @Ac.eq_1 @Cl.v.eq_1 @Ap.eq_1 @dg.eq_1 h4 hpos;refine Bw [0,1,2] [0,1] (hO) ?_
  (simp only [AH,Ai,Al,Ac,Cl.v,Ap,seval])
  have zz:=Db @B7.eq_1 @B7.eq_2 @dg.eq_1 @Cl.v.eq_1 h4 hpos;exact Bf hx [0,1,2,3] ⟨rfl,rfl,rfl⟩
 rw [if_neg h6] at hE
 rw [decide_eq_false h6] at hO
 have zz:=XK @Ai.eq_1 @Al.eq_1 @Ac.eq_1 @Cl.v.eq_1 @Ap.eq_1 @dg.eq_1 h4 hpos;refine Bw [0,1,2] [0,1] (hO) ?_
 (simp only [AH,Ai,Al,Ac,Cl.v,Ap,seval])
 have hVA:=hV A
 cases hv:vf A with
 | mk nx ve =>
 rw [hv] at hVA hE
 dsimp only at hVA hE
 cases ve with
 | some e =>
   have hE:some e=E:=hE
   subst hE
   have zz:=C4 @dg.eq_1 Fs @Aw;refine Ce (hVA) ?_
   (simp only [NC,Aw,Ai,Al,Ac,Cl.v,Ap,seval])
   have zz:=Db @B7.eq_1 @B7.eq_2 @dg.eq_1 @Cl.v.eq_1 h4 hpos;exact Bf hx [0,1,2,3] ⟨rfl,rfl,rfl⟩
 | none =>
   have hE:(if nx=B ↔ (k - dd) % 2=0 then some 46 else none)=E:=hE
   have e1:IntKind.i64.wrap ((k:Int) - (dd:Int))=((k - dd:Nat):Int):=AZ
   have e0:((k - dd:Nat):Int).tmod 2=(((k - dd) % 2:Nat):Int):=rfl
   have e3:((((k - dd:Nat):Int).tmod 2)=0)=((k - dd) % 2=0):=by rw [e0];exact propext Aa
   have zz:=C4 @dg.eq_1 Fs @B0;refine Ce (hVA) ?_
   by_cases h7:nx=B <;> by_cases h8:(k - dd) % 2=0
   all_goals
    simp only [h7,h8,Lb9,iff_true,true_iff,false_iff,not_false_eq_true,iff_self,reduceIte] at hE
    subst hE
    (simp only [NC,B0,Ai,Al,Ac,Cl.v,Ap,e1,e3,h7,h8,seval])
    have zz:=Db @B7.eq_1 @B7.eq_2 @dg.eq_1 @Cl.v.eq_1 h4 hpos;exact Bf hx [0,1,2,3] ⟨rfl,rfl,rfl⟩
structure OkTd (M:Seat):Prop where
 o:OkOs M
 w:OkW M
 k128:Au M 128 Ain=true
def CY (s:Dg) (vs st:V):V:=.st 34 (.fcons 0 (dg s) (.fcons 32 vs (.fcons 33 st .fnil)))
theorem H5 {M:Seat} (ok:OkTd M) (d:Nat) (hd:1≤d∧d≤4):Ag M 128 [.int .i64 d] [] 0 (Q3 (Ah (CY (tm 0).com (.lst 32 (2 ^ d) fun i=>dg (tm (i + 1)).com) (.lst 116 (2 ^ d) fun i=>BI (Dp (tm i).f 13 0) (tm i).h (CV (C7 16).pres (tm i)).2.1 (CV (C7 16).pres (tm i)).2.2)) (.bool true)) [] 0):=by
 have hT:∀ i,i < 16→Mz M (tm i) (tm (i + 1)):=fun i hi=>(PL ok.w (tm i) i Aa (Pk ok.w i Aa)).1
 have hP:∀ i,i < 16→Ag M 97 [.ptr 0 [],.ptr 1 []] [(0,(tm i).v),(1,Kt .nils),(2,BR Bk Pr.zero (C7 16).pres)] 5 (Q3 (Yb (tm i) none (CV (C7 16).pres (tm i)).2.1 (CV (C7 16).pres (tm i)).2.2) [(0,(tm i).v),(1,Kt .nils),(2,BR Bk Pr.zero (C7 16).pres)] 5):=fun i hi=>by
  have h:=S3 ok.o (tm i) (C7 16).pres 0
  rw [(PL ok.w (tm i) i Aa (Pk ok.w i Aa)).2.2] at h
  exact h
 have hO:∀ i,Ag M 54 [.imm (A3 (tm i).f (tm i).g (tm i).pc (tm i).hl (tm i).xt)] [] 0 (Q3 (Ah (dg (tm i).com) .nili) [] 0):=fun i=>X4 ok.o.q.okA ok.o.d (tm i).f (tm i).g (tm i).pc (tm i).hl (tm i).xt
 have hv:∀ m:Mc,m.v=A3 m.f m.g m.pc m.hl m.xt:=fun _=>rfl
 have e0:(tm 0).v=A3 (YH 4 tw) (fun _=>0#64) 0#64 false 0#64:=rfl
 obtain ⟨L,P,hL,hPr⟩:∃ (L:Nat→List Pf) (P:Nat→Pr),(∀ i,(CV (C7 16).pres (tm i)).2.1=L i)∧∀ i,(CV (C7 16).pres (tm i)).2.2=P i:=⟨_,_,fun _=>rfl,fun _=>rfl⟩
 obtain ⟨C,hC⟩:∃ C:Nat→Dg,∀ i,(tm i).com=C i:=⟨_,fun _=>rfl⟩
 obtain ⟨R,hR⟩:∃ R:Nat→Dg,∀ i,Dp (tm i).f 13 0=R i:=⟨_,fun _=>rfl⟩
 simp only [Yb,hL,hPr,hR] at hP
 simp only [hC] at hO
 simp only [hL,hPr,hC,hR]
 clear hL hPr hC hR
 generalize tm=T at *
 generalize hK:2 ^ d=K
 have hKn:1≤K∧K≤16:=by
  rcases (show d=1 ∨ d=2 ∨ d=3 ∨ d=4 by omega) with rfl | rfl | rfl | rfl <;> subst hK <;> decide
 have c0:=Fg ok.w.toOkI 26 1 0 0 0 1 Am Am Am Am Am Am
 have c1:=Fg ok.w.toOkI 1 2 2 1 0 0 Am Am Am Am Am Am
 have c2:=Fg ok.w.toOkI 28 0 2 2 0 40 Am Am Am Am Am Am
 have c3:=Fg ok.w.toOkI 29 0 0 0 0 1 Am Am Am Am Am Am
 simp only [Int.natCast_zero,Int.cast_ofNat_Int] at c0 c1 c2 c3
 have z0:IntKind.i64.wrap 0=0:=rfl
 have z1:IntKind.i64.wrap 1=1:=rfl
 have z2:IntKind.i64.wrap 2=2:=rfl
 have z3:IntKind.i64.wrap 3=3:=rfl
 have z4:IntKind.i64.wrap 4=4:=rfl
 have t0:tw 0=QJ 26 1 0 0 0 1:=rfl
 generalize QJ 26 1 0 0 0 1=q0 at *
 have t1:tw 1=QJ 1 2 2 1 0 0:=rfl
 generalize QJ 1 2 2 1 0 0=q1 at *
 have t2:tw 2=QJ 28 0 2 2 0 40:=rfl
 generalize QJ 28 0 2 2 0 40=q2 at *
 have t3:tw 3=QJ 29 0 0 0 0 1:=rfl
 generalize QJ 29 0 0 0 0 1=q3 at *
 have hLd:=Oq ok.o.q.okA 4 Am tw
 have zK:IntKind.i64.wrap (1 * 2 ^ min d 64)=(K:Int):=by
  rcases (show d=1 ∨ d=2 ∨ d=3 ∨ d=4 by omega) with rfl | rfl | rfl | rfl <;> subst hK <;> rfl
 have hN:=Tc ok.o.q.okA ok.o.q.ok.toOkS
 generalize C7 16=w at *
 refine Ab ok.k128 rfl fun x hx=>?_
 refine es 2000 ?_;(simp only [Ain,Ah3,z0,z1,LZ,seval])
 refine AW ?_
 refine es 2000 ?_
 (simp only [z0,z1,z2,z3,z4,LZ,seval])
 refine Ak (c0) ?_
 (simp only [AH,z0,z1,z2,z3,z4,seval])
 repeat refine sd ?_
 refine AW ?_
 refine es 2000 ?_
 (simp only [z0,z1,z2,z3,z4,LZ,seval])
 refine Ak (c1) ?_
 (simp only [AH,z0,z1,z2,z3,z4,seval])
 repeat refine sd ?_
 refine AW ?_
 refine es 2000 ?_
 (simp only [z0,z1,z2,z3,z4,LZ,seval])
 refine Ak (c2) ?_
 (simp only [AH,z0,z1,z2,z3,z4,seval])
 repeat refine sd ?_
 refine AW ?_
 refine es 2000 ?_
 (simp only [z0,z1,z2,z3,z4,LZ,seval])
 refine Ak (c3) ?_
 (simp only [AH,z0,z1,z2,z3,z4,seval])
 repeat refine sd ?_
 refine AW ?_
 refine es 2000 ?_
 (simp only [z0,z1,z2,z3,z4,LZ,seval])
 refine cfK (hLd) (by (try simp only [A3,LY,seval]) <;> first | exact q1 | ((intro i hi;rcases (show i=0 ∨ i=1 ∨ i=2 ∨ i=3 by omega) with rfl | rfl | rfl | rfl <;> simp only [t0,t1,t2,t3,LY,seval]))) (by simp only [A3,LX]) ?_
 (simp only [AH,BH,seval])
 have zz:=GM @EZ.eq_1 Zm @Du @RP @J3;refine Kb (hN) ?_
 rw [← e0]
 (simp only [EZ,Zm,Iu,hv,EE,seval])
 have zz:=Bb @A3.eq_1 @dg.eq_1;refine Ce (hO 0) ?_
 (simp only [NC,zK,seval])
 refine ⟨by omega,?_⟩
 have q0:((0:Int) < (K:Int))=True:=eq_true Aa
 have hS0:=hT 0 Am
 have hP0:=hP 0 Am
 have hO1:=hO 1
 simp only [Mz,hv] at hS0
 simp only [hv,BI,Mc.h,Hd.v,AM] at hP0
 refine AW ?_
 refine es 2000 ?_
 (simp only [q0,LZ,seval])
 have zz:=C4 @Kt.eq_1 @A3.eq_1 @J3;refine Bw [2240,2336,2337,2338,2340] [2240,2336,2337] (hP0) ?_
 (simp only [Oh,Kt,hv,BH,seval])
 have zz:=@A3.eq_1;refine Om [2240,2336] [2240] (hS0) ?_
 (simp only [BH,EE,seval])
 have zz:=Bb @A3.eq_1 @dg.eq_1;refine Ce (hO1) ?_
 (simp only [NC,Nat.testBit,List.map_nil,List.map_cons,B3,seval])
 have z11:IntKind.i64.wrap 1=((1:Nat):Int):=rfl
 refine An (σ:=Nat) (fun i=>1≤i∧i≤K) (fun i=>fr 119 [(2,.ptr 9 []),(9,.ptr 5 []),(10,.nili),(11,.ptr 0 []),(13,.ptr 6 []),(77,.int .i64 K),(78,.int .i64 i)])
  (fun i=>EZ w .nils [] ++ [(5,(T i).v),(6,CY (C 0) (.sl 7 [] 0 i 32) (.sl 8 [] 0 i 116)),(7,.ar 32 i fun j=>dg (C (j + 1))),(8,.ar 116 i fun j=>BI (R j) (T j).h (L j) (P j)),(9,CY Dg.zero .nils .nils)]) (fun _=>10) (fun i=>K - i) 1 ⟨by omega,hKn.1⟩ ?_ ?_
 ·refine Ao.fr [2336,2337,2338,2339,2340,2240,2688,3504,3584,0] [] hx AQ Am ?_ ?_
  ·simp only [z11,LY,seval]
  ·simp only [La2,Lbx,hv,CY,BI,Mc.h,Hd.v,AM,Be,seval]
   (repeat' apply And.intro)
   all_goals
    intro j hj
    obtain rfl:j=0:=Aa
    simp only [if_true,Be,Fz,seval]
 ·rintro i ⟨h1,hi⟩
  refine es 2000 ?_
  by_cases hiK:i=K
  ·subst hiK
   have w0:((i:Int) < (i:Int))=False:=eq_false Aa
   (simp only [w0,La2,hv,CY,LZ,seval])
   repeat refine sd ?_
   refine Ar.mk hx [] [7,8] (Ah (CY (C 0) (.lst 32 i fun j=>dg (C (j + 1))) (.lst 116 i fun j=>BI (R j) (T j).h (L j) (P j))) (.bool true)) [] 0 Am (by (simp only [CU,seval])) ?_ trivial ⟨rfl,rfl,rfl⟩
   simp only [LV,AH,CY,BI,Mc.h,Hd.v,AM,Be,dg,Fz,seval]
   exact ⟨rfl,rfl⟩
  ·have w0:((i:Int) < (K:Int))=True:=eq_true Aa
   have z0:IntKind.i64.wrap ((i:Int) + 1)=((i + 1:Nat):Int):=AZ
   have hS0:=hT i Aa
   have hP0:=hP i Aa
   have hO1:=hO (i + 1)
   simp only [Mz,hv] at hS0
   simp only [hv,BI,Mc.h,Hd.v,AM] at hP0
   (simp only [w0,La2,hv,CY,LZ,seval])
   have zz:=C4 @Kt.eq_1 @A3.eq_1 @J3;refine Bw [5,0,1,2,4] [5,0,1] (hP0) ?_
   (simp only [Oh,Kt,hv,BH,seval])
   have zz:=@A3.eq_1;refine Om [5,0] [5] (hS0) ?_
   (simp only [BH,EE,seval])
   have zz:=Bb @A3.eq_1 @dg.eq_1;refine Ce (hO1) ?_
   (simp only [NC,z0,BI,Mc.h,Hd.v,AM,Nat.testBit,List.map_nil,List.map_cons,B3,seval])
   repeat refine sd ?_
   refine ⟨i + 1,by omega,by omega,by omega,?_⟩
   refine Ao.fr [0,1,2,3,4,5,6,746,826,9] [] hx AQ Am ?_ ?_
   ·simp only [LY,seval]
   ·simp only [La2,Lbx,hv,CY,BI,Mc.h,Hd.v,AM,Be,seval]
    (repeat' apply And.intro)
    all_goals
     intro j hj
     by_cases h:j < i
     ·simp only [h,if_true,Be,Fz,seval]
     ·obtain rfl:j=i:=Aa
      simp only [Nat.lt_irrefl,Nat.sub_self,CL,Be,Fz,seval]
structure OkGr (M:Seat):Prop where
 t:OkGt M
 k252:Au M 252 UR=true
def ltO (c:Nat→Cl) (i:Nat):Option Nat→Bool
 | none=>true
 | some b=>decide ((c i).pos < (c b).pos)
def Cc (c:Nat→Cl) (a:Int):Nat→Option Nat
 | 0=>none
 | i + 1=>if (c i).par=a∧(c i).co=false∧ltO c i (Cc c a i)=true then some i else Cc c a i
theorem Gi (c:Nat→Cl) (a:Int):∀ i j,Cc c a i=some j→j < i∧(c j).par=a∧(c j).co=false
 | 0,_,h=>by cases h
 | i + 1, j, h => by
   rw [Cc] at h
   split at h
   ·next hc=>cases h;exact ⟨by omega,hc.1,hc.2.1⟩
   ·obtain ⟨h1,h2⟩:=Gi c a i j h
    exact ⟨by omega,h2⟩
def Wq (c:Nat→Cl) (o:Option Nat):V:=match o with
 | some j=>(c j).v
 | none=>Cl.zero.v
abbrev Gs.kidO (G:Gs) (a:Nat):Prop:=∃ j,j < G.n∧(G.c j).par=a∧(G.c j).rs=false
def Gs.rsE (G:Gs) (a:Nat) (t:BitVec 64):Option Int :=
 if G.kidO a then some 44
 else if Gy (G.c a).us (G.c a).at' (CQ G.c (G.c a)) t then some 2
 else if G.l≤CQ G.c (G.c a) + t - (G.c a).at' then none
 else some 44
def Gs.rsB (G:Gs) (a:Nat):Int:=match Cc G.c a G.n with
 | some j=>if (G.c a).st=true then (G.c a).by' else (G.c j).pl
 | none=>(G.c a).by'
def Gs.rsC (G:Gs) (a:Nat):Cl:={ G.c a with rs:=true,co:=(G.c a).st || (Cc G.c a G.n).isSome,by':=G.rsB a }
def Gs.rsv (G:Gs) (a:Nat):Gs:={ G with c:=fun j=>if j=a then G.rsC a else G.c j,b:=fun j=>if j=(G.rsB a).toNat then G.b (G.rsB a).toNat + G.v a else G.b j,k:=G.k - G.v a,gv:=fun j=>if j=a then true else G.gv j }
theorem L3 {M:Seat} (ok:OkGr M) (G:Gs) (w:G.wf) (a:Nat) (ha:a < G.n) (hu:(G.c a).rs=false) (hbd:(G.c a).bond=a) (hgv:G.gv a=false) (hB:∃ p:Nat,p < 8∧G.rsB a=p) (t:BitVec 64) :
 Ag M 252 [.ptr 0 [],.int .i64 a,W t] G.H 4 (Q3 (B7 (G.rsE a t)) ((match G.rsE a t with | none=>G.rsv a | some _=>G).H) 4):=by
 have hOE:=IL ok.t.s G.D G.l G.g G.s G.n G.c (G.c a) t w.hr (Hk w.prs ha)
 have hOS:=J8 ok.t.s G.D G.l G.g G.s G.n G.c (G.c a) t w.hr (Hk w.prs ha)
 have hn:=w.hn
 obtain ⟨p,hp8,hBp⟩:=hB
 have hG:=RI ok.t.s.le G.b G.i G.o G.n G.k G.v G.gv a ha Aa hgv p hp8
 clear w
 generalize hE:G.rsE a t=E
 generalize hX:G.rsv a=X
 unfold Gs.rsE at hE
 unfold Gs.rsv at hX
 unfold Gs.rsC at hX
 rw [hBp,Int.toNat_natCast] at hX
 unfold Gs.rsB at hBp
 obtain ⟨D,l,g,s,n,c,b,ii,o,kk,vv,gv⟩:=G
 dsimp only at *
 have hca:(c a).v=Cl.v ⟨(c a).par,(c a).pos,(c a).val,(c a).pl,(c a).bond,(c a).us,(c a).at',(c a).st,(c a).rs,(c a).co,(c a).by'⟩:=rfl
 generalize hu0:CQ c (c a)=u at *
 have d0:((a:Int) < 0)=False:=eq_false Aa
 have d1:((n:Int)≤(a:Int))=False:=eq_false Aa
 have d2:((a:Int) < (n:Int))=True:=eq_true Aa
 have d3:(0≤(a:Int))=True:=eq_true Aa
 refine Ab ok.k252 rfl fun x hx=>?_
 refine es 2000 ?_;(simp only [UR,T7,Gs.H,Ai,Al,Ac,Ap,Aq,A7,A4,Cl.v,hu,d0,d1,d2,d3,LZ,seval])
 repeat refine sd ?_
 refine An (σ:=Nat) (fun i=>i≤n∧∀ j,j < i→(c j).par=a→(c j).rs=true) (fun i=>fr 128 [(0,.ptr 0 []),(1,.int .i64 a),(2,W t),(6,.nili),(7,.ptr 4 []),(8,.ptr 5 []),(9,.bool (Cc c a i).isSome),(48,.sl 1 [] 0 n 42),(49,.int .i64 n),(50,.int .i64 i)]) (fun i=>[(0,Ai D l g s (.ptr 2 []) (.sl 1 [] 0 n 42)),(1,Ap n c),(2,Aq b ii o (.sl 3 [] 0 n 2) kk),(3,A7 n vv gv),(4,(c a).v),(5,Wq c (Cc c a i))]) (fun _=>6) (fun i=>n - i) 0 ⟨by omega,fun j h=>by omega⟩ ?_ ?_
 ·refine Ao.fr [0,1,2,3,468,516] [] hx AQ Am ?_ ?_
  ·simp only [Cc,Option.isSome,Int.natCast_zero,LY,seval]
  ·simp only [Cc,Wq,Ai,Al,Ac,Ap,Aq,A7,A4,Cl.v,Cl.zero,hu,dg,LY,seval]
 ·intro i ⟨hi,hk⟩
  refine es 2000 ?_
  by_cases hin:i=n
  ·subst hin
   have w0:((i:Int) < (i:Int))=False:=eq_false Aa
   have hno:¬ ∃ j,j < i∧(c j).par=a∧(c j).rs=false:=fun ⟨j,h1,h2,h3⟩=>by rw [hk j h1 h2] at h3;cases h3
   rw [if_neg hno] at hE
   simp only [Cl.v,hu] at hOE hOS
   (simp only [w0,Ai,Al,Ac,Ap,Aq,A7,A4,Cl.v,hu,LZ,seval])
   by_cases h5:Gy (c a).us (c a).at' u t
   ·rw [if_pos h5] at hE
    subst hE
    have hO:=hOE h5
    have zz:=aq7 @Ai.eq_1 @Al.eq_1 @Ac.eq_1 @Cl.v.eq_1 @Ap.eq_1 @dg.eq_1 hu;refine Bw [0,1,2] [0,1] (hO) ?_
    (simp only [AH,Ai,Al,Ac,Cl.v,Ap,seval])
    have zz:=Lj @B7.eq_1 @B7.eq_2 @dg.eq_1 @Cl.v.eq_1 @Gs.H.eq_1 @Ai.eq_1 @Al.eq_1 @Ac.eq_1 @Ap.eq_1 @Aq.eq_1 @A7.eq_1 @A4.eq_1 hu;exact Bf hx [0,1,2,3] ⟨rfl,rfl,rfl⟩
   rw [if_neg h5] at hE
   have hO:=hOS h5
   by_cases h6:l≤u + t - (c a).at'
   case neg =>
    rw [if_neg h6] at hE
    subst hE
    rw [decide_eq_false h6] at hO
    have zz:=aq7 @Ai.eq_1 @Al.eq_1 @Ac.eq_1 @Cl.v.eq_1 @Ap.eq_1 @dg.eq_1 hu;refine Bw [0,1,2] [0,1] (hO) ?_
    (simp only [AH,Ai,Al,Ac,Cl.v,Ap,seval])
    have zz:=Lj @B7.eq_1 @B7.eq_2 @dg.eq_1 @Cl.v.eq_1 @Gs.H.eq_1 @Ai.eq_1 @Al.eq_1 @Ac.eq_1 @Ap.eq_1 @Aq.eq_1 @A7.eq_1 @A4.eq_1 hu;exact Bf hx [0,1,2,3] ⟨rfl,rfl,rfl⟩
   rw [if_pos h6] at hE
   subst hE
   rw [decide_eq_true h6] at hO
   generalize hb:Cc c a i=R at *
   have hlR:∀ j,R=some j→j < i:=fun j hj=>(Gi c a i j (hb.trans hj)).1
   clear hb hk hno
   have hpB:∀ st,(c a).st=st→(st=true ∨ R=none→(c a).by'=p)∧∀ j,st=false→R=some j→(c j).pl=p:=by
    rintro st rfl
    cases hst:(c a).st <;> cases R <;> rw [hst] at hBp <;> simp at hBp <;> refine ⟨fun h=>?_,fun j h1 h2=>?_⟩
    all_goals first | exact hBp | (cases h2;exact hBp) | (cases h2;done) | (rcases h with h | h <;> cases h) | cases h1
   have hm:=fun st (h:(c a).st=st)=>(hpB st h).1
   have hm2:=fun st (h:(c a).st=st)=>(hpB st h).2
   clear hpB hBp hOE hOS
   cases hst:(c a).st <;> cases R
   case' false.none=>have hq:=hm _ hst (.inr rfl)
   case' true.none=>have hq:=hm _ hst (.inr rfl)
   case' true.some=>have hq:=hm _ hst (.inl rfl)
   case' false.some j=>have hq:=hm2 _ hst j rfl rfl
   all_goals
    simp only [hst,Bool.or_true,Bool.true_or,Bool.false_or,Option.isSome] at hO hX
    clear hm hm2
    have zz:=XK @Ai.eq_1 @Al.eq_1 @Ac.eq_1 @Cl.v.eq_1 @Ap.eq_1 @dg.eq_1 hu hst;refine Bw [0,1,2] [0,1] (hO) ?_
    (simp only [AH,Ai,Al,Ac,Cl.v,Ap,Wq,Option.isSome,Cl.zero,hq,hbd,d2,d3,hst,seval])
    repeat refine sd ?_
    have zz:=Bb @Aq.eq_1 @A4.eq_1;refine L9 [2,3] [2,3] (hG) ?_
    (simp only [AH,Aq,A4,seval])
    subst hX
    refine Ar.mk hx [0,1,2,3] [] .nili _ 4 Am (by (simp only [CU,seval])) (by simp only [LV,Ah,LY,seval]) ?_ ⟨rfl,rfl,rfl⟩
    simp only [Gs.H,Ai,Al,Ac,Ap,Cl.v,Aq,A7,A4,dg,LY,seval]
    intro j hj
    by_cases h:j=a
    ·subst h
     simp only [if_true,hbd,hst,LY,seval]
    ·simp only [h,if_false,LY,seval]
  ·have w0:((i:Int) < (n:Int))=True:=eq_true Aa
   have w1:(0≤(i:Int))=True:=eq_true Aa
   have z0:IntKind.i64.wrap ((i:Int) + 1)=((i + 1:Nat):Int):=AZ
   have hk':(c i).rs=true→∀ j,j < i + 1→(c j).par=a→(c j).rs=true:=fun h0 j hj hp=>by
    rcases Nat.lt_or_ge j i with h | h
    ·exact hk j h hp
    ·obtain rfl:j=i:=Aa
     exact h0
   by_cases h1:(c i).par=a
   case neg =>
    have hb1:Cc c a (i + 1)=Cc c a i:=by rw [Cc,if_neg (fun h=>h1 h.1)]
    have h1':=eq_false h1
    generalize hR:Cc c a i=R at *
    (simp only [w0,w1,z0,Ai,Al,Ac,Ap,Aq,A7,A4,Cl.v,h1',hu,LZ,seval])
    repeat refine sd ?_
    refine ⟨i + 1,by omega,fun j hj hp=>?_,by omega,?_⟩
    ·rcases Nat.lt_or_ge j i with h | h
     ·exact hk j h hp
     ·obtain rfl:j=i:=Aa
      exact absurd hp h1
    rw [hb1]
    cases R
    all_goals
     refine Ao.fr [0,1,2,3,4,5] [] hx AQ Am ?_ ?_
     ·simp only [Option.isSome,LY,seval]
     ·simp only [Wq,Ai,Al,Ac,Ap,Aq,A7,A4,Cl.v,Cl.zero,hu,dg,LY,seval]
   have h1':=eq_true h1
   cases hrs:(c i).rs with
   | false =>
     have hin2:i < n:=Aa
     rw [if_pos ⟨i,hin2,h1,hrs⟩] at hE
     subst hE
     (simp only [w0,w1,z0,Ai,Al,Ac,Ap,Aq,A7,A4,Cl.v,h1',hrs,hu,LZ,seval])
     repeat refine sd ?_
     have zz:=Lj @B7.eq_1 @B7.eq_2 @dg.eq_1 @Cl.v.eq_1 @Gs.H.eq_1 @Ai.eq_1 @Al.eq_1 @Ac.eq_1 @Ap.eq_1 @Aq.eq_1 @A7.eq_1 @A4.eq_1 hu;exact Bf hx [0,1,2,3] ⟨rfl,rfl,rfl⟩
   | true =>
     have hk2:=hk' hrs
     cases hco:(c i).co with
     | true =>
       have hb1:Cc c a (i + 1)=Cc c a i:=by rw [Cc,if_neg (fun h=>by have:=h.2.1;rw [hco] at this;cases this)]
       generalize hR:Cc c a i=R at *
       (simp only [w0,w1,z0,Ai,Al,Ac,Ap,Aq,A7,A4,Cl.v,h1',hrs,hco,hu,LZ,seval])
       repeat refine sd ?_
       refine ⟨i + 1,by omega,hk2,by omega,?_⟩
       rw [hb1]
       cases R
       all_goals
        refine Ao.fr [0,1,2,3,4,5] [] hx AQ Am ?_ ?_
        ·simp only [Option.isSome,LY,seval]
        ·simp only [Wq,Ai,Al,Ac,Ap,Aq,A7,A4,Cl.v,Cl.zero,hu,dg,LY,seval]
     | false =>
       have hb0:Cc c a (i + 1)=if ltO c i (Cc c a i)=true then some i else Cc c a i:=by
        rw [Cc]
        by_cases h:ltO c i (Cc c a i)=true
        ·rw [if_pos ⟨h1,hco,h⟩,if_pos h]
        ·rw [if_neg (fun h2=>h h2.2.2),if_neg h]
       generalize hR:Cc c a i=R at *
       cases R with
       | none =>
         rw [ltO,if_pos rfl] at hb0
         (simp only [w0,w1,z0,Ai,Al,Ac,Ap,Aq,A7,A4,Cl.v,h1',hrs,hco,hu,Option.isSome,LZ,seval])
         repeat refine sd ?_
         refine ⟨i + 1,by omega,hk2,by omega,?_⟩
         rw [hb0]
         refine Ao.fr [0,1,2,3,4,5] [] hx AQ Am ?_ ?_
         ·simp only [Option.isSome,LY,seval]
         ·simp only [Wq,Ai,Al,Ac,Ap,Aq,A7,A4,Cl.v,Cl.zero,h1',h1,hrs,hco,hu,dg,LY,seval]
       | some b =>
         by_cases hlt:(c i).pos < (c b).pos
         ·have hlt':=eq_true hlt
          rw [ltO,decide_eq_true hlt,if_pos rfl] at hb0
          (simp only [w0,w1,z0,Ai,Al,Ac,Ap,Aq,A7,A4,Wq,Cl.v,h1',hrs,hco,hu,hlt',Option.isSome,LZ,seval])
          repeat refine sd ?_
          refine ⟨i + 1,by omega,hk2,by omega,?_⟩
          rw [hb0]
          refine Ao.fr [0,1,2,3,4,5] [] hx AQ Am ?_ ?_
          ·simp only [Option.isSome,LY,seval]
          ·simp only [Wq,Ai,Al,Ac,Ap,Aq,A7,A4,Cl.v,Cl.zero,h1',h1,hrs,hco,hu,dg,LY,seval]
         ·have hlt':=eq_false hlt
          rw [ltO,decide_eq_false hlt,if_neg Am] at hb0
          (simp only [w0,w1,z0,Ai,Al,Ac,Ap,Aq,A7,A4,Wq,Cl.v,h1',hrs,hco,hu,hlt',Option.isSome,LZ,seval])
          repeat refine sd ?_
          refine ⟨i + 1,by omega,hk2,by omega,?_⟩
          rw [hb0]
          refine Ao.fr [0,1,2,3,4,5] [] hx AQ Am ?_ ?_
          ·simp only [Option.isSome,LY,seval]
          ·simp only [Wq,Ai,Al,Ac,Ap,Aq,A7,A4,Cl.v,Cl.zero,hu,dg,LY,seval]
end Mv
