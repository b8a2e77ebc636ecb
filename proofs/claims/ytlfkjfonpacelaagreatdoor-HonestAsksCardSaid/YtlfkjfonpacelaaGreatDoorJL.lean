/- A part. -/
import Derived.Test.YtlfkjfonpacelaaGreatDoorJK
set_option linter.all false
set_option maxRecDepth 20000
set_option maxHeartbeats 16000000
namespace Mv
open Go
def Kg (a b c d:V):V:=.tup (.fcons 0 a (.fcons 1 b (.fcons 2 c (.fcons 3 d .fnil))))
def Gs.enA (G:Gs) (a:Nat):Dg :=
 if 0#64 < trW G.D (G.c a).pos then (match Xw G.D G.c (trW G.D (G.c a).pos - 1#64) (a + 1) a with | some j=>(G.c j).val | none=>Dg.zero) else G.s
def Gs.enJ (G:Gs) (a:Nat):Option Nat:=Xw G.D G.c (trW G.D (G.c a).pos + 1#64) (a + 1) a
theorem TJ {D n:Nat} {c:Nat→Cl} (hr:Prs n c) (t:BitVec 64):∀ f (a j:Nat),a < n→Xw D c t f a=some j→j < n∧j≤a
 | 0,_,_,_,h=>by cases h
 | f + 1, a, j, ha, h => by
   rw [Xw,if_neg Aa,Int.toNat_natCast] at h;split at h
   ·cases h;exact ⟨ha,Nat.le_refl _⟩
   ·rcases hr a ha with h1 | ⟨p,h1,hp⟩
    ·rw [h1] at h;cases f with
     | zero=>cases h
     | succ f=>rw [Xw,if_pos Aa] at h;cases h
    ·rw [h1] at h;obtain ⟨h2,h3⟩:=TJ hr t f p j Aa h;exact ⟨h2,by omega⟩
theorem ST {M:Seat} (ok:OkGs M) (G:Gs) (hD:G.D≤20) (hp:Pls G.D G.n G.c) (hr:Prs G.n G.c) (a:Nat) (ha:a < G.n) :
 Ae M 356 [.ptr 0 [],.int .i64 a,.bool false] [(0,As G.D G.l G.g G.s (.ptr 2 []) (.sl 1 [] 0 G.n 42)),(1,Au G.n G.c)] 3 (Q3 (Kg (dg (G.enA a)) (dg (G.c a).val) (.int .i64 G.D) .nili) [(0,As G.D G.l G.g G.s (.ptr 2 []) (.sl 1 [] 0 G.n 42)),(1,Au G.n G.c)] 3):=by
 obtain ⟨D,l,g,s,n,c,b,ii,o,kk,vv,gv⟩:=G;dsimp only [Gs.enA] at *
 obtain ⟨k,i,hk,hi,hpos⟩:=hp a ha;have hT:=Cy ok.v.g.p ok.k359 (show D≤24 by omega) hk hi;have hA:=JA ok D hD l g s n c hp hr a ha (trW D (c a).pos - 1#64);rw [hpos,TW Aa hi] at hA ⊢;generalize BitVec.ofNat 64 (E3 D k i)=w at *
 have d1:((a:Int) < (n:Int))=True:=eq_true Aa;have d2:(0≤(a:Int))=True:=eq_true Aa;refine Ab ok.k356 rfl fun x hx=>?_;by_cases hw:0#64 < w
 ·have hw':=eq_true hw;rw [if_pos hw];generalize Xw D c (w - 1#64) (a + 1) a=R at *
  refine eX ?_;simp only [YC,Ac3,As,Av,Ad,Au,Cl.v,hpos,d1,d2,LZ,seval];repeat refine sd ?_
  refine AO (hT) ?_;simp only [Bb,hw',seval];cases R with
  | none =>
    simp only [abR] at hA;have zz:=Gb @c9 @c8 @b9 @b8 @f7 @b7;refine By [0,1,2] [0,1] (hA) ?_;simp only [Bb,As,Av,Ad,Cl.v,Cl.zero,Au,seval];have zz:=D0 @Kg.eq_1 @b7 @b8 @b9;exact AI hx [0,1,2] ⟨rfl,rfl,rfl⟩
  | some j =>
    simp only [abR] at hA;have zz:=Gb @c9 @c8 @b9 @b8 @f7 @b7;refine By [0,1,2] [0,1] (hA) ?_;simp only [Bb,As,Av,Ad,Cl.v,Au,seval];have zz:=D0 @Kg.eq_1 @b7 @b8 @b9;exact AI hx [0,1,2] ⟨rfl,rfl,rfl⟩
 ·have hw':=eq_false hw;rw [if_neg hw];refine eX ?_;simp only [YC,Ac3,As,Av,Ad,Au,Cl.v,hpos,d1,d2,LZ,seval];repeat refine sd ?_
  refine AO (hT) ?_;simp only [Bb,hw',seval];have zz:=D0 @Kg.eq_1 @b7 @b8 @b9;exact AI hx [0,1,2] ⟨rfl,rfl,rfl⟩
def Gs.enD (G:Gs) (a:Nat):V:=match G.enJ a with
 | none=>Kg (dg Dg.zero) (dg Dg.zero) (.int .i64 0) (er 45)
 | some j=>Kg (dg (G.c a).val) (dg (G.c j).val) (.int .i64 (Gg (G.c j).pos)) .nili
theorem T0 {M:Seat} (ok:OkGs M) (G:Gs) (hD:G.D≤20) (hp:Pls G.D G.n G.c) (hr:Prs G.n G.c) (a:Nat) (ha:a < G.n) :
 Ae M 356 [.ptr 0 [],.int .i64 a,.bool true] [(0,As G.D G.l G.g G.s (.ptr 2 []) (.sl 1 [] 0 G.n 42)),(1,Au G.n G.c)] 3 (Q3 (G.enD a) [(0,As G.D G.l G.g G.s (.ptr 2 []) (.sl 1 [] 0 G.n 42)),(1,Au G.n G.c)] 3):=by
 obtain ⟨D,l,g,s,n,c,b,ii,o,kk,vv,gv⟩:=G;dsimp only [Gs.enD,Gs.enJ] at *
 obtain ⟨k,i,hk,hi,hpos⟩:=hp a ha;have hT:=Cy ok.v.g.p ok.k359 (show D≤24 by omega) hk hi;have hA:=JA ok D hD l g s n c hp hr a ha (trW D (c a).pos + 1#64);have hlt:=fun j=>TJ (D:=D) hr (trW D (c a).pos + 1#64) (a + 1) a j ha;rw [hpos,TW Aa hi] at hA hlt ⊢;generalize BitVec.ofNat 64 (E3 D k i)=w at *
 have d1:((a:Int) < (n:Int))=True:=eq_true Aa;have d2:(0≤(a:Int))=True:=eq_true Aa;generalize Xw D c (w + 1#64) (a + 1) a=R at *
 refine Ab ok.k356 rfl fun x hx=>?_;cases R with
 | none =>
   simp only [abR] at hA ⊢;refine eX ?_;simp only [YC,Ac3,As,Av,Ad,Au,Cl.v,hpos,d1,d2,LZ,seval];repeat refine sd ?_
   refine AO (hT) ?_;simp only [Bb,seval];have zz:=Gb @c9 @c8 @b9 @b8 @f7 @b7;refine By [0,1,2] [0,1] (hA) ?_;simp only [Bb,As,Av,Ad,Cl.v,Cl.zero,Au,seval];have zz:=D0 @Kg.eq_1 @b7 @b8 @b9;exact AI hx [0,1,2] ⟨rfl,rfl,rfl⟩
 | some j =>
   simp only [abR] at hA ⊢;obtain ⟨k2,i2,hk2,hi2,hpos2⟩:=hp j (hlt j rfl).1;have hP:=Bv ok.v.g.p (show k2≤24 by omega) hi2;rw [hpos2,BR Aa hi2];refine eX ?_;simp only [YC,Ac3,As,Av,Ad,Au,Cl.v,hpos,d1,d2,LZ,seval];repeat refine sd ?_
   refine AO (hT) ?_;simp only [Bb,seval];have zz:=Gb @c9 @c8 @b9 @b8 @f7 @b7;refine By [0,1,2] [0,1] (hA) ?_;simp only [Bb,As,Av,Ad,Cl.v,Au,hpos2,seval];refine Aj (hP) ?_;simp only [B0,LZ,seval];have zz:=D0 @Kg.eq_1 @b7 @b8 @b9;exact AI hx [0,1,2] ⟨rfl,rfl,rfl⟩
structure OkGt (M:Seat):Prop where
 s:OkGs M
 k251:Ar M 251 Abr=true
def Gs.stP (G:Gs) (a:Nat) (df:Bool) (pl:Int) (t:BitVec 64):Option Int :=
 if pl < 0 ∨ 8≤pl then some 2
 else if ¬ Gg (G.c a).pos=G.D then some 45
 else if df=true∧G.enJ a=none then some 45
 else if (G.c a).st=true then some 41
 else if KA (G.c a).us (G.c a).at' (Hq G.c (G.c a)) t then some 2
 else if G.l≤Hq G.c (G.c a) + t - (G.c a).at' then some 42
 else none
def Gs.jv (G:Gs) (a:Nat):Nat:=(G.enJ a).getD a
def Gs.sA (G:Gs) (a:Nat) (df:Bool):Dg:=if df=true then (G.c a).val else G.enA a
def Gs.sB (G:Gs) (a:Nat) (df:Bool):Dg:=if df=true then (G.c (G.jv a)).val else (G.c a).val
def Gs.sD (G:Gs) (a:Nat) (df:Bool):Nat:=if df=true then Gg (G.c (G.jv a)).pos else G.D
def Gs.stE (G:Gs) (vf:Dg→Dg × Option Int) (a:Nat) (df:Bool) (pl:Int) (t:BitVec 64):Option Int :=
 match G.stP a df pl t with
 | some e=>some e
 | none => match (vf (G.sA a df)).2 with
   | some e=>some e
   | none=>if ((vf (G.sA a df)).1=G.sB a df) ↔ (G.D - G.sD a df) % 2=0 then some 46 else none
structure Gs.wf (G:Gs):Prop where
 hD:G.D≤20
 hn:G.n≤64
 hr:RY G.l G.g
 pls:Pls G.D G.n G.c
 prs:Prs G.n G.c
theorem Jk {n:Nat} {c:Nat→Cl} (h:Prs n c) {a:Nat} (ha:a < n):(c a).par < 0 ∨ ∃ p:Nat,(c a).par=p∧p < n:=by
 rcases h a ha with h | ⟨p,h,hp⟩
 ·exact .inl Aa
 ·exact .inr ⟨p,h,by omega⟩
theorem Xm {M:Seat} (ok:OkGt M) (G:Gs) (w:G.wf) (vf:Dg→Dg × Option Int) (R:Dg) (hd:Hd) (L:List Pf) (pr:Pr)
 (hV:∀ C,Ae M 98 [dg C,DG R hd L pr] [] 0 (Q3 (Ai (dg (vf C).1) (Cn (vf C).2)) [] 0)) (a:Nat) (ha:a < G.n) (df:Bool) (pl:Int) (t:BitVec 64) :
 Ae M 251 [.ptr 0 [],.int .i64 a,(G.c a).v,.bool df,DG R hd L pr,.int .i64 pl,W t] G.H 4 (Q3 (Cn (G.stE vf a df pl t)) G.H 4):=by
 have hEA:=ST ok.s G w.hD w.pls w.prs a ha;have hED:=T0 ok.s G w.hD w.pls w.prs a ha;have hOE:=Mq ok.s G.D G.l G.g G.s G.n G.c (G.c a) t w.hr (Jk w.prs ha);have hOS:=M4 ok.s G.D G.l G.g G.s G.n G.c (G.c a) t w.hr (Jk w.prs ha);obtain ⟨k,i,hk,hi,hpos⟩:=w.pls a ha;have hDp:Gg (G.c a).pos=k:=by rw [hpos,BR (by have:=w.hD;omega) hi]
 have hP:=Bv ok.s.v.g.p (show k≤24 by have:=w.hD;omega) hi;have hjl:∀ j,G.enJ a=some j→Gg (G.c j).pos≤G.D:=fun j hj=>by
  obtain ⟨k2,i2,hk2,hi2,hpos2⟩:=w.pls j (TJ w.prs _ _ _ _ ha hj).1;rw [hpos2,BR (by have:=w.hD;omega) hi2];exact hk2
 have hD20:=w.hD;clear w;generalize hE:G.stE vf a df pl t=E;unfold Gs.stE Gs.stP at hE;unfold Gs.enD at hED;unfold Gs.sA Gs.sB Gs.sD Gs.jv at hE;generalize G.enA a=EA at *
 generalize G.enJ a=EJ at *
 obtain ⟨D,l,g,s,n,c,b,ii,o,kk,vv,gv⟩:=G;dsimp only at *
 generalize Hq c (c a)=u at *
 rw [hDp] at hE;simp only [DG,Hd.v,Ba] at hV;refine Ab ok.k251 rfl fun x hx=>?_;by_cases h1:pl < 0 ∨ 8≤pl
 ·rw [if_pos h1] at hE;subst hE;have hB:=V8 ok.s.le pl h1;refine eX ?_;simp only [Abr,Abq,Gs.H,As,Av,Ad,Cl.v,Au,A6,AQ,AM,DG,Hd.v,Fm,seval];refine Nt [2] [] (hB) (by constructor <;> (try simp only [LY,seval]) <;> exact q1) (by simp only [LX]) ?_;simp only [Bb,seval];have zz:=D0 @k8 @k9 @b7 @b8;exact AI hx [0,1,2,3] ⟨rfl,rfl,rfl⟩
 rw [if_neg h1] at hE;obtain ⟨p,rfl⟩:∃ p:Nat,pl=p:=⟨pl.toNat,by omega⟩
 have hB:=Aca ok.s.le b ii o n kk p Aa;by_cases h2:k=D;case neg =>
  rw [if_pos h2] at hE;subst hE;have d2:((k:Int)=(D:Int))=False:=eq_false Aa;refine eX ?_;simp only [Abr,Abq,Gs.H,As,Av,Ad,Cl.v,Au,A6,AQ,AM,DG,Hd.v,Fm,hpos,seval];have zz:=@j4;refine By [2,3] [2] (hB) ?_;simp only [Bb,A6,seval];refine Aj (hP) ?_;simp only [B0,As,Av,Ad,d2,LZ,seval];have zz:=D0 @k8 @k9 @b7 @b8;exact AI hx [0,1,2,3] ⟨rfl,rfl,rfl⟩
 rw [if_neg (fun h=>h h2)] at hE;subst h2;by_cases h3:df=true∧EJ=none
 ·rw [if_pos h3] at hE;obtain ⟨rfl,rfl⟩:=h3;subst hE;refine eX ?_;simp only [Abr,Abq,Gs.H,As,Av,Ad,Cl.v,Au,A6,AQ,AM,DG,Hd.v,Fm,hpos,seval];have zz:=@j4;refine By [2,3] [2] (hB) ?_;simp only [Bb,A6,seval];refine Aj (hP) ?_;simp only [B0,As,Av,Ad,LZ,seval];have zz:=Gb @c9 @c8 @b9 @b8 @f7 @b7;refine By [0,1,2] [0,1] (hED) ?_;simp only [Kg,As,Av,Ad,Cl.v,Au,LZ,seval];have zz:=D0 @k8 @k9 @b7 @b8;exact AI hx [0,1,2,3] ⟨rfl,rfl,rfl⟩
 rw [if_neg h3] at hE;obtain ⟨A,B,dd,hdd,hEn,hE2⟩:∃ A B dd,dd≤k∧(Ae M 356 [.ptr 0 [],.int .i64 a,.bool df] [(0,As k l g s (.ptr 2 []) (.sl 1 [] 0 n 42)),(1,Au n c)] 3 (Q3 (Kg (dg A) (dg B) (.int .i64 dd) .nili) [(0,As k l g s (.ptr 2 []) (.sl 1 [] 0 n 42)),(1,Au n c)] 3))
  ∧ (match (if (c a).st=true then some 41 else if KA (c a).us (c a).at' u t then some 2 else if l≤u + t - (c a).at' then some 42 else none:Option Int) with
   | some e=>some e
   | none => match (vf A).2 with
     | some e=>some e
     | none=>if (vf A).1=B ↔ (k - dd) % 2=0 then some 46 else none)=E:=by
  cases df with
  | true =>
    cases EJ with
    | none=>exact absurd ⟨rfl,rfl⟩ h3
    | some j=>exact ⟨_,_,_,hjl j rfl,hED,hE⟩
  | false=>exact ⟨_,_,_,Nat.le_refl _,hEA,hE⟩
 clear hEA hED h3 hjl hE
 rename _=E=>hE
 refine eX ?_;simp only [Abr,Abq,Gs.H,As,Av,Ad,Cl.v,Au,A6,AQ,AM,DG,Hd.v,Fm,hpos,seval];have zz:=@j4;refine By [2,3] [2] (hB) ?_;simp only [Bb,A6,seval];refine Aj (hP) ?_;simp only [B0,As,Av,Ad,LZ,seval];have zz:=Gb @c9 @c8 @b9 @b8 @f7 @b7;refine By [0,1,2] [0,1] (hEn) ?_;by_cases h4:(c a).st=true
 ·rw [if_pos h4] at hE;subst hE;simp only [Kg,As,Av,Ad,Cl.v,Au,h4,LZ,seval];have zz:=Gb @k8 @k9 @b7 @b8 h4 hpos;exact AI hx [0,1,2,3] ⟨rfl,rfl,rfl⟩
 rw [if_neg h4] at hE;have h4:(c a).st=false:=by simpa using h4
 simp only [Kg,As,Av,Ad,Cl.v,Au,h4,LZ,seval];by_cases h5:KA (c a).us (c a).at' u t
 ·rw [if_pos h5] at hE;subst hE;have hO:=hOE h5;simp only [Cl.v,h4,hpos] at hO;have zz:=Qe @c9 @c8 @b9 @b8 @f7 @b7 h4 hpos;refine By [0,1,2] [0,1] (hO) ?_;simp only [Bb,As,Av,Ad,Cl.v,Au,seval];have zz:=Gb @k8 @k9 @b7 @b8 h4 hpos;exact AI hx [0,1,2,3] ⟨rfl,rfl,rfl⟩
 rw [if_neg h5] at hE;have hO:=hOS h5;simp only [Cl.v,h4,hpos] at hO;by_cases h6:l≤u + t - (c a).at'
 ·rw [if_pos h6] at hE;subst hE;rw [decide_eq_true h6] at hO;have zz:=Qe @c9 @c8 @b9 @b8 @f7 @b7 h4 hpos;refine By [0,1,2] [0,1] (hO) ?_;simp only [Bb,As,Av,Ad,Cl.v,Au,seval];have zz:=Gb @k8 @k9 @b7 @b8 h4 hpos;exact AI hx [0,1,2,3] ⟨rfl,rfl,rfl⟩
 rw [if_neg h6] at hE;rw [decide_eq_false h6] at hO;have zz:=Qe @c9 @c8 @b9 @b8 @f7 @b7 h4 hpos;refine By [0,1,2] [0,1] (hO) ?_;simp only [Bb,As,Av,Ad,Cl.v,Au,seval];have hVA:=hV A;cases hv:vf A with
 | mk nx ve =>
 rw [hv] at hVA hE;dsimp only at hVA hE;cases ve with
 | some e =>
   have hE:some e=E:=hE;subst hE;have zz:=Cv @b7 Jq @AA;refine Dh (hVA) ?_;simp only [Cz,AA,As,Av,Ad,Cl.v,Au,seval];have zz:=Gb @k8 @k9 @b7 @b8 h4 hpos;exact AI hx [0,1,2,3] ⟨rfl,rfl,rfl⟩
 | none =>
   have hE:(if nx=B ↔ (k - dd) % 2=0 then some 46 else none)=E:=hE;have e1:IntKind.i64.wrap ((k:Int) - (dd:Int))=((k - dd:Nat):Int):=AW;have e0:((k - dd:Nat):Int).tmod 2=(((k - dd) % 2:Nat):Int):=rfl;have e3:((((k - dd:Nat):Int).tmod 2)=0)=((k - dd) % 2=0):=by rw [e0];exact propext Aa
   have zz:=Cv @b7 Jq @BS;refine Dh (hVA) ?_;by_cases h7:nx=B <;> by_cases h8:(k - dd) % 2=0;all_goals
    simp only [h7,h8,Lb9,iff_true,true_iff,false_iff,not_false_eq_true,iff_self,reduceIte] at hE;subst hE;simp only [Cz,BS,As,Av,Ad,Cl.v,Au,e1,e3,h7,h8,seval];have zz:=Gb @k8 @k9 @b7 @b8 h4 hpos;exact AI hx [0,1,2,3] ⟨rfl,rfl,rfl⟩
structure OkGr (M:Seat):Prop where
 t:OkGt M
 k252:Ar M 252 Zy=true
def ltO (c:Nat→Cl) (i:Nat):Option Nat→Bool
 | none=>true
 | some b=>decide ((c i).pos < (c b).pos)
def Ee (c:Nat→Cl) (a:Int):Nat→Option Nat
 | 0=>none
 | i + 1=>if (c i).par=a∧(c i).co=false∧ltO c i (Ee c a i)=true then some i else Ee c a i
theorem OX (c:Nat→Cl) (a:Int):∀ i j,Ee c a i=some j→j < i∧(c j).par=a∧(c j).co=false
 | 0,_,h=>by cases h
 | i + 1, j, h => by
   rw [Ee] at h;split at h
   ·next hc=>cases h;exact ⟨by omega,hc.1,hc.2.1⟩
   ·obtain ⟨h1,h2⟩:=OX c a i j h;exact ⟨by omega,h2⟩
def lsV (c:Nat→Cl) (o:Option Nat):V:=match o with
 | some j=>(c j).v
 | none=>Cl.zero.v
abbrev Gs.kidO (G:Gs) (a:Nat):Prop:=∃ j,j < G.n∧(G.c j).par=a∧(G.c j).rs=false
def Gs.rsE (G:Gs) (a:Nat) (t:BitVec 64):Option Int :=
 if G.kidO a then some 44
 else if KA (G.c a).us (G.c a).at' (Hq G.c (G.c a)) t then some 2
 else if G.l≤Hq G.c (G.c a) + t - (G.c a).at' then none
 else some 44
def Gs.rsB (G:Gs) (a:Nat):Int:=match Ee G.c a G.n with
 | some j=>if (G.c a).st=true then (G.c a).by' else (G.c j).pl
 | none=>(G.c a).by'
def Gs.rsC (G:Gs) (a:Nat):Cl:={ G.c a with rs:=true,co:=(G.c a).st || (Ee G.c a G.n).isSome,by':=G.rsB a }
def Gs.rsv (G:Gs) (a:Nat):Gs:={ G with c:=fun j=>if j=a then G.rsC a else G.c j,b:=fun j=>if j=(G.rsB a).toNat then G.b (G.rsB a).toNat + G.v a else G.b j,k:=G.k - G.v a,gv:=fun j=>if j=a then true else G.gv j }
theorem Om {M:Seat} (ok:OkGr M) (G:Gs) (w:G.wf) (a:Nat) (ha:a < G.n) (hu:(G.c a).rs=false) (hbd:(G.c a).bond=a) (hgv:G.gv a=false) (hB:∃ p:Nat,p < 8∧G.rsB a=p) (t:BitVec 64) :
 Ae M 252 [.ptr 0 [],.int .i64 a,W t] G.H 4 (Q3 (Cn (G.rsE a t)) ((match G.rsE a t with | none=>G.rsv a | some _=>G).H) 4):=by
 have hOE:=Mq ok.t.s G.D G.l G.g G.s G.n G.c (G.c a) t w.hr (Jk w.prs ha);have hOS:=M4 ok.t.s G.D G.l G.g G.s G.n G.c (G.c a) t w.hr (Jk w.prs ha);have hn:=w.hn;obtain ⟨p,hp8,hBp⟩:=hB;have hG:=WP ok.t.s.le G.b G.i G.o G.n G.k G.v G.gv a ha Aa hgv p hp8;clear w;generalize hE:G.rsE a t=E;generalize hX:G.rsv a=X;unfold Gs.rsE at hE;unfold Gs.rsv at hX;unfold Gs.rsC at hX;rw [hBp,Int.toNat_natCast] at hX;unfold Gs.rsB at hBp;obtain ⟨D,l,g,s,n,c,b,ii,o,kk,vv,gv⟩:=G;dsimp only at *
 have hca:(c a).v=Cl.v ⟨(c a).par,(c a).pos,(c a).val,(c a).pl,(c a).bond,(c a).us,(c a).at',(c a).st,(c a).rs,(c a).co,(c a).by'⟩:=rfl;generalize hu0:Hq c (c a)=u at *
 have d0:((a:Int) < 0)=False:=eq_false Aa;have d1:((n:Int)≤(a:Int))=False:=eq_false Aa;have d2:((a:Int) < (n:Int))=True:=eq_true Aa;have d3:(0≤(a:Int))=True:=eq_true Aa;refine Ab ok.k252 rfl fun x hx=>?_;refine eX ?_;simp only [Zy,Ab6,Gs.H,As,Av,Ad,Au,A6,AQ,AM,Cl.v,hu,d0,d1,d2,d3,LZ,seval];repeat refine sd ?_
 refine Am (σ:=Nat) (fun i=>i≤n∧∀ j,j < i→(c j).par=a→(c j).rs=true) (fun i=>fr 128 [(0,.ptr 0 []),(1,.int .i64 a),(2,W t),(6,.nili),(7,.ptr 4 []),(8,.ptr 5 []),(9,.bool (Ee c a i).isSome),(48,.sl 1 [] 0 n 42),(49,.int .i64 n),(50,.int .i64 i)]) (fun i=>[(0,As D l g s (.ptr 2 []) (.sl 1 [] 0 n 42)),(1,Au n c),(2,A6 b ii o (.sl 3 [] 0 n 2) kk),(3,AQ n vv gv),(4,(c a).v),(5,lsV c (Ee c a i))]) (fun _=>6) (fun i=>n - i) 0 ⟨by omega,fun j h=>by omega⟩ ?_ ?_
 ·refine Ak.fr [0,1,2,3,468,516] [] hx AG Al ?_ ?_
  ·simp only [Ee,Option.isSome,Int.natCast_zero,LY,seval]
  ·simp only [Ee,lsV,As,Av,Ad,Au,A6,AQ,AM,Cl.v,Cl.zero,hu,dg,LY,seval]
 ·intro i ⟨hi,hk⟩;refine eX ?_;by_cases hin:i=n
  ·subst hin;have w0:((i:Int) < (i:Int))=False:=eq_false Aa;have hno:¬ ∃ j,j < i∧(c j).par=a∧(c j).rs=false:=fun ⟨j,h1,h2,h3⟩=>by rw [hk j h1 h2] at h3;cases h3
   rw [if_neg hno] at hE;simp only [Cl.v,hu] at hOE hOS;simp only [w0,As,Av,Ad,Au,A6,AQ,AM,Cl.v,hu,LZ,seval];by_cases h5:KA (c a).us (c a).at' u t
   ·rw [if_pos h5] at hE;subst hE;have hO:=hOE h5;have zz:=UW @c9 @c8 @b9 @b8 @f7 @b7 hu;refine By [0,1,2] [0,1] (hO) ?_;simp only [Bb,As,Av,Ad,Cl.v,Au,seval];have zz:=Jh @k8 @k9 @b7 @b8 @Gs.H.eq_1 @c9 @c8 @b9 @f7 @j4 @l7 @j8 hu;exact AI hx [0,1,2,3] ⟨rfl,rfl,rfl⟩
   rw [if_neg h5] at hE;have hO:=hOS h5;by_cases h6:l≤u + t - (c a).at';case neg =>
    rw [if_neg h6] at hE;subst hE;rw [decide_eq_false h6] at hO;have zz:=UW @c9 @c8 @b9 @b8 @f7 @b7 hu;refine By [0,1,2] [0,1] (hO) ?_;simp only [Bb,As,Av,Ad,Cl.v,Au,seval];have zz:=Jh @k8 @k9 @b7 @b8 @Gs.H.eq_1 @c9 @c8 @b9 @f7 @j4 @l7 @j8 hu;exact AI hx [0,1,2,3] ⟨rfl,rfl,rfl⟩
   rw [if_pos h6] at hE;subst hE;rw [decide_eq_true h6] at hO;generalize hb:Ee c a i=R at *
   have hlR:∀ j,R=some j→j < i:=fun j hj=>(OX c a i j (hb.trans hj)).1;clear hb hk hno;have hpB:∀ st,(c a).st=st→(st=true ∨ R=none→(c a).by'=p)∧∀ j,st=false→R=some j→(c j).pl=p:=by
    rintro st rfl;cases hst:(c a).st <;> cases R <;> rw [hst] at hBp <;> simp at hBp <;> refine ⟨fun h=>?_,fun j h1 h2=>?_⟩;all_goals first | exact hBp | (cases h2;exact hBp) | (cases h2;done) | (rcases h with h | h <;> cases h) | cases h1
   have hm:=fun st (h:(c a).st=st)=>(hpB st h).1;have hm2:=fun st (h:(c a).st=st)=>(hpB st h).2;clear hpB hBp hOE hOS;cases hst:(c a).st <;> cases R
   case' false.none=>have hq:=hm _ hst (.inr rfl)
   case' true.none=>have hq:=hm _ hst (.inr rfl)
   case' true.some=>have hq:=hm _ hst (.inl rfl)
   case' false.some j=>have hq:=hm2 _ hst j rfl rfl
   all_goals
    simp only [hst,Bool.or_true,Bool.true_or,Bool.false_or,Option.isSome] at hO hX;clear hm hm2;have zz:=Qe @c9 @c8 @b9 @b8 @f7 @b7 hu hst;refine By [0,1,2] [0,1] (hO) ?_;simp only [Bb,As,Av,Ad,Cl.v,Au,lsV,Option.isSome,Cl.zero,hq,hbd,d2,d3,hst,seval];repeat refine sd ?_
    have zz:=AY @j4 @j8;refine G6 [2,3] [2,3] (hG) ?_;simp only [Bb,A6,AM,seval];subst hX;refine Ap.mk hx [0,1,2,3] [] .nili _ 4 Al (by (simp only [Di,seval])) (by simp only [LV,Ai,LY,seval]) ?_ ⟨rfl,rfl,rfl⟩;simp only [Gs.H,As,Av,Ad,Au,Cl.v,A6,AQ,AM,dg,LY,seval];intro j hj;by_cases h:j=a
    ·subst h;simp only [if_true,hbd,hst,LY,seval]
    ·simp only [h,if_false,LY,seval]
  ·have w0:((i:Int) < (n:Int))=True:=eq_true Aa;have w1:(0≤(i:Int))=True:=eq_true Aa;have z0:IntKind.i64.wrap ((i:Int) + 1)=((i + 1:Nat):Int):=AW;have hk':(c i).rs=true→∀ j,j < i + 1→(c j).par=a→(c j).rs=true:=fun h0 j hj hp=>by
    rcases Nat.lt_or_ge j i with h | h
    ·exact hk j h hp
    ·obtain rfl:j=i:=Aa;exact h0
   by_cases h1:(c i).par=a;case neg =>
    have hb1:Ee c a (i + 1)=Ee c a i:=by rw [Ee,if_neg (fun h=>h1 h.1)]
    have h1':=eq_false h1;generalize hR:Ee c a i=R at *
    simp only [w0,w1,z0,As,Av,Ad,Au,A6,AQ,AM,Cl.v,h1',hu,LZ,seval];repeat refine sd ?_
    refine ⟨i + 1,by omega,fun j hj hp=>?_,by omega,?_⟩
    ·rcases Nat.lt_or_ge j i with h | h
     ·exact hk j h hp
     ·obtain rfl:j=i:=Aa;exact absurd hp h1
    rw [hb1];cases R;all_goals
     refine Ak.fr [0,1,2,3,4,5] [] hx AG Al ?_ ?_
     ·simp only [Option.isSome,LY,seval]
     ·simp only [lsV,As,Av,Ad,Au,A6,AQ,AM,Cl.v,Cl.zero,hu,dg,LY,seval]
   have h1':=eq_true h1;cases hrs:(c i).rs with
   | false =>
     have hin2:i < n:=Aa;rw [if_pos ⟨i,hin2,h1,hrs⟩] at hE;subst hE;simp only [w0,w1,z0,As,Av,Ad,Au,A6,AQ,AM,Cl.v,h1',hrs,hu,LZ,seval];repeat refine sd ?_
     have zz:=Jh @k8 @k9 @b7 @b8 @Gs.H.eq_1 @c9 @c8 @b9 @f7 @j4 @l7 @j8 hu;exact AI hx [0,1,2,3] ⟨rfl,rfl,rfl⟩
   | true =>
     have hk2:=hk' hrs;cases hco:(c i).co with
     | true =>
       have hb1:Ee c a (i + 1)=Ee c a i:=by rw [Ee,if_neg (fun h=>by have:=h.2.1;rw [hco] at this;cases this)]
       generalize hR:Ee c a i=R at *
       simp only [w0,w1,z0,As,Av,Ad,Au,A6,AQ,AM,Cl.v,h1',hrs,hco,hu,LZ,seval];repeat refine sd ?_
       refine ⟨i + 1,by omega,hk2,by omega,?_⟩;rw [hb1];cases R;all_goals
        refine Ak.fr [0,1,2,3,4,5] [] hx AG Al ?_ ?_
        ·simp only [Option.isSome,LY,seval]
        ·simp only [lsV,As,Av,Ad,Au,A6,AQ,AM,Cl.v,Cl.zero,hu,dg,LY,seval]
     | false =>
       have hb0:Ee c a (i + 1)=if ltO c i (Ee c a i)=true then some i else Ee c a i:=by
        rw [Ee];by_cases h:ltO c i (Ee c a i)=true
        ·rw [if_pos ⟨h1,hco,h⟩,if_pos h]
        ·rw [if_neg (fun h2=>h h2.2.2),if_neg h]
       generalize hR:Ee c a i=R at *
       cases R with
       | none =>
         rw [ltO,if_pos rfl] at hb0;simp only [w0,w1,z0,As,Av,Ad,Au,A6,AQ,AM,Cl.v,h1',hrs,hco,hu,Option.isSome,LZ,seval];repeat refine sd ?_
         refine ⟨i + 1,by omega,hk2,by omega,?_⟩;rw [hb0];refine Ak.fr [0,1,2,3,4,5] [] hx AG Al ?_ ?_
         ·simp only [Option.isSome,LY,seval]
         ·simp only [lsV,As,Av,Ad,Au,A6,AQ,AM,Cl.v,Cl.zero,h1',h1,hrs,hco,hu,dg,LY,seval]
       | some b =>
         by_cases hlt:(c i).pos < (c b).pos
         ·have hlt':=eq_true hlt;rw [ltO,decide_eq_true hlt,if_pos rfl] at hb0;simp only [w0,w1,z0,As,Av,Ad,Au,A6,AQ,AM,lsV,Cl.v,h1',hrs,hco,hu,hlt',Option.isSome,LZ,seval];repeat refine sd ?_
          refine ⟨i + 1,by omega,hk2,by omega,?_⟩;rw [hb0];refine Ak.fr [0,1,2,3,4,5] [] hx AG Al ?_ ?_
          ·simp only [Option.isSome,LY,seval]
          ·simp only [lsV,As,Av,Ad,Au,A6,AQ,AM,Cl.v,Cl.zero,h1',h1,hrs,hco,hu,dg,LY,seval]
         ·have hlt':=eq_false hlt;rw [ltO,decide_eq_false hlt,if_neg Al] at hb0;simp only [w0,w1,z0,As,Av,Ad,Au,A6,AQ,AM,lsV,Cl.v,h1',hrs,hco,hu,hlt',Option.isSome,LZ,seval];repeat refine sd ?_
          refine ⟨i + 1,by omega,hk2,by omega,?_⟩;rw [hb0];refine Ak.fr [0,1,2,3,4,5] [] hx AG Al ?_ ?_
          ·simp only [Option.isSome,LY,seval]
          ·simp only [lsV,As,Av,Ad,Au,A6,AQ,AM,Cl.v,Cl.zero,hu,dg,LY,seval]
variable {M:Seat}
def Gs.mE (G:Gs) (a:Int) (df:Bool) (v:Dg) (pl:Int) (bd t:BitVec 64):Option Int :=
 if a < 0 ∨ (G.n:Int)≤a then some 4
 else if (G.c a.toNat).rs=true then some 43
 else mvE G a.toNat df v pl bd t (Gg (G.c a.toNat).pos) (N4 (G.c a.toNat).pos)
def Gs.mT (G:Gs) (a:Int) (df:Bool) (v:Dg) (pl:Int) (bd t:BitVec 64):Gs :=
 G.mv (mvC G a.toNat df v pl t (Gg (G.c a.toNat).pos) (N4 (G.c a.toNat).pos)) pl.toNat bd
theorem PQ (ok:OkGr M) (G:Gs) (w:G.wf) (a:Int) (df:Bool) (v:Dg) (pl:Int) (bd t:BitVec 64) (e:Int) (he:G.mE a df v pl bd t=some e) :
 Ae M 110 [.ptr 0 [],.int .i64 a,.bool df,dg v,.int .i64 pl,W bd,W t] G.H 4 (Q3 (Ai (.int .i64 0) (.ifc 145 (.ptr 4 []))) (G.H ++ [(4,Ex a e)]) 5):=by
 have hD:=w.hD;have hn:=w.hn;have hME:=Tg ok.t.s.v G;have hpl:=w.pls;have hpr:=fun {a}=>Jk (a:=a) w.prs;have hr:=w.hr;clear w;unfold Gs.mE at he;refine Ab ok.t.s.v.g.n.k110 rfl fun x hx=>?_;by_cases h1:a < 0 ∨ (G.n:Int)≤a
 ·rw [if_pos h1] at he;cases he;have hF:=KQ ok.t.s.v.g G.D G.l G.g G.s G.n a h1;obtain ⟨D,l,g,s,n,c,b,ii,o,kk,vv,gv⟩:=G;dsimp only at *
  refine eX ?_;simp only [Zs,Abs,Gs.H,As,Av,Ad,Au,A6,AQ,AM,Cl.v,LZ,seval];have zz:=UW @c9 @c8 @b9 @b8 @k7 @l8 @b7;refine Z8 [0,1,2] [0] (hF) ?_;simp only [Bb,As,Av,Ad,Cl.v,Cl.zero,Ex,seval];refine Ap.mk hx [0,1,2,3,84] [] (Ai (.int .i64 0) (.ifc 145 (.ptr 4 []))) _ 5 Al (by (simp only [Di,seval])) (by simp only [LV,Ai,LY,seval]) ?_ ⟨rfl,rfl,rfl⟩;simp only [Gs.H,As,Av,Ad,Au,Cl.v,A6,AQ,AM,Ex,dg,B3,LY,seval]
 rw [if_neg h1] at he;obtain ⟨p,rfl⟩:∃ p:Nat,a=p:=⟨a.toNat,by omega⟩
 have hp:p < G.n:=Aa;rw [Int.toNat_natCast] at he;cases hrs:(G.c p).rs with
 | true =>
   rw [if_pos hrs] at he;cases he;have hF:=L2 ok.t.s.v.g G.D G.l G.g G.s G.n G.c p hp hrs;obtain ⟨D,l,g,s,n,c,b,ii,o,kk,vv,gv⟩:=G;dsimp only at *
   refine eX ?_;simp only [Zs,Abs,Gs.H,As,Av,Ad,Au,A6,AQ,AM,Cl.v,LZ,seval];have zz:=Qe @c9 @c8 @b9 @f7 @b8 @k7 @l8 @b7;refine Z8 [0,1,2] [0,1] (hF) ?_;simp only [Bb,As,Av,Ad,Au,Cl.v,Cl.zero,Ex,seval];refine Ap.mk hx [0,1,2,3,84] [] (Ai (.int .i64 0) (.ifc 145 (.ptr 4 []))) _ 5 Al (by (simp only [Di,seval])) (by simp only [LV,Ai,LY,seval]) ?_ ⟨rfl,rfl,rfl⟩;simp only [Gs.H,As,Av,Ad,Au,Cl.v,A6,AQ,AM,Ex,dg,B3,LY,seval]
 | false =>
   rw [if_neg (by rw [hrs];simp)] at he;have hF:=HH ok.t.s.v.g G.D G.l G.g G.s G.n G.c p hp hrs;obtain ⟨k,i,hk,hi,hpos⟩:=hpl p hp;rw [hpos,BR Aa hi,CI Aa hi] at he;have hM:=hME p df v pl bd t k i Aa hr hp Aa hi hpos (hpr hp) e he;have hA:=I2 ok.t.s.v.g p e;simp only [WN,Cl.v,Ad,hrs] at hM;obtain ⟨D,l,g,s,n,c,b,ii,o,kk,vv,gv⟩:=G;dsimp only at *
   simp only [Gs.H,As,Av,Ad] at hM;refine eX ?_;simp only [Zs,Abs,Gs.H,As,Av,Ad,Au,A6,AQ,AM,Cl.v,LZ,seval];have zz:=Gb @c9 @c8 @b9 @f7 @b8 @b7;refine By [0,1,2] [0,1] (hF) ?_;simp only [Bb,As,Av,Ad,Au,Cl.v,hrs,seval];have zz:=aq9 @c9 @c8 @b9 @f7 @j4 @l7 @j8 @b8 @b7;refine By [0,1,2,3] [0,1,2,3] (hM) ?_;simp only [Bb,As,Av,Ad,Au,A6,AQ,AM,Cl.v,seval];have zz:=@l8;refine Jp (hA) ?_;simp only [Bb,Ex,seval];refine Ap.mk hx [0,1,2,3,532] [] (Ai (.int .i64 0) (.ifc 145 (.ptr 4 []))) _ 5 Al (by (simp only [Di,seval])) (by simp only [LV,Ai,LY,seval]) ?_ ⟨rfl,rfl,rfl⟩;simp only [Gs.H,As,Av,Ad,Au,Cl.v,A6,AQ,AM,Ex,dg,hrs,B3,LY,seval]
theorem Gs.mE_in {G:Gs} {a:Int} {df:Bool} {v:Dg} {pl:Int} {bd t:BitVec 64} (h:G.mE a df v pl bd t=none):∃ p:Nat,a=p∧p < G.n∧(G.c p).rs=false∧mvE G p df v pl bd t (Gg (G.c p).pos) (N4 (G.c p).pos)=none:=by
 unfold Gs.mE at h;by_cases h1:a < 0 ∨ (G.n:Int)≤a
 ·rw [if_pos h1] at h;cases h
 rw [if_neg h1] at h;obtain ⟨p,rfl⟩:∃ p:Nat,a=p:=⟨a.toNat,by omega⟩
 rw [Int.toNat_natCast] at h;cases hrs:(G.c p).rs with
 | true=>rw [if_pos hrs] at h;cases h
 | false=>rw [if_neg (by rw [hrs];simp)] at h;exact ⟨p,rfl,by omega,hrs,h⟩
theorem JG (ok:OkGr M) (G:Gs) (w:G.wf) (a:Int) (df:Bool) (v:Dg) (pl:Int) (bd t:BitVec 64) (he:G.mE a df v pl bd t=none) :
 Ae M 110 [.ptr 0 [],.int .i64 a,.bool df,dg v,.int .i64 pl,W bd,W t] G.H 4 (Q3 (Ai (.int .i64 (G.n:Int)) .nili) ((G.mT a df v pl bd t).H2) 6):=by
 obtain ⟨p,rfl,hp,hrs,he⟩:=Gs.mE_in he;have hD:=w.hD;have hn:=w.hn;obtain ⟨k,i,hk,hi,hpos⟩:=w.pls p hp;have hM:=SI ok.t.s.v G p df v pl bd t k i Aa w.hr hp Aa hi hpos (Jk w.prs hp) (by rw [hpos,BR Aa hi,CI Aa hi] at he;exact he);have hF:=HH ok.t.s.v.g G.D G.l G.g G.s G.n G.c p hp hrs;have hA:=Mt ok.t.s.v.g p;have hT:G.mT p df v pl bd t=G.mv (mvC G p df v pl t k i) pl.toNat bd:=by rw [Gs.mT,Int.toNat_natCast,hpos,BR Aa hi,CI Aa hi]
 rw [hT];clear w he hT;unfold Gs.mv mvC clN at *
 simp only [Gs.H2,WN,Cl.v,Ad,hrs] at hM ⊢;generalize P9 k i df=q at *
 generalize mnW (Hq G.c (G.c p) + t - (G.c p).at') (G.l - G.g)=u at *
 obtain ⟨D,l,g,s,n,c,b,ii,o,kk,vv,gv⟩:=G;dsimp only at *
 simp only [Gs.H,As,Av,Ad] at hM;refine Ab ok.t.s.v.g.n.k110 rfl fun x hx=>?_;refine eX ?_;simp only [Zs,Abs,Gs.H,As,Av,Ad,Au,A6,AQ,AM,Cl.v,LZ,seval];have zz:=Gb @c9 @c8 @b9 @f7 @b8 @b7;refine By [0,1,2] [0,1] (hF) ?_;simp only [Bb,As,Av,Ad,Au,Cl.v,hrs,seval];have zz:=aq9 @c9 @c8 @b9 @f7 @j4 @l7 @j8 @b8 @b7;refine By [0,1,2,3] [0,1,2,3] (hM) ?_;simp only [Bb,As,Av,Ad,Au,A6,AQ,AM,Cl.v,seval];refine Aj (hA) ?_;simp only [Bb,seval];refine Ap.mk hx [0,1,2,3,388,389] [] (Ai (.int .i64 n) .nili) _ 6 Al (by (simp only [Di,seval])) (by simp only [LV,Ai,LY,seval]) ?_ ⟨rfl,rfl,rfl⟩;simp only [As,Av,Ad,Au,Cl.v,A6,AQ,AM,dg,LY,seval]
 (repeat' apply And.intro)
 all_goals
  intro j hj;by_cases h:j < n
  ·simp only [h,if_true,LY,seval]
  ·simp only [h,if_false,LY,seval]
def Gs.tE (G:Gs) (vf:Dg→Dg × Option Int) (a:Int) (df:Bool) (pl:Int) (t:BitVec 64):Option Int :=
 if a < 0 ∨ (G.n:Int)≤a then some 4
 else if (G.c a.toNat).rs=true then some 43
 else G.stE vf a.toNat df pl t
def Gs.tT (G:Gs) (a:Int) (pl:Int):Gs:={ G with c:=fun j=>if j=a.toNat then { G.c a.toNat with st:=true,by':=pl } else G.c j }
theorem S1 (ok:OkGr M) (G:Gs) (w:G.wf) (vf:Dg→Dg × Option Int) (R:Dg) (hd:Hd) (L:List Pf) (pr:Pr)
 (hV:∀ C,Ae M 98 [dg C,DG R hd L pr] [] 0 (Q3 (Ai (dg (vf C).1) (Cn (vf C).2)) [] 0)) (a:Int) (df:Bool) (pl:Int) (t:BitVec 64) :
 (∀ e,G.tE vf a df pl t=some e→Ae M 114 [.ptr 0 [],.int .i64 a,.bool df,DG R hd L pr,.int .i64 pl,W t] G.H 4 (Q3 (.ifc 145 (.ptr 4 [])) (G.H ++ [(4,Ex a e)]) 5)) ∧
 (G.tE vf a df pl t=none→Ae M 114 [.ptr 0 [],.int .i64 a,.bool df,DG R hd L pr,.int .i64 pl,W t] G.H 4 (Q3 .nili ((G.tT a pl).H) 4)):=by
 have hD:=w.hD;have hn:=w.hn;unfold Gs.tE;by_cases h1:a < 0 ∨ (G.n:Int)≤a
 ·rw [if_pos h1];refine ⟨fun e he=>?_,fun h=>by cases h⟩;cases he;have hF:=KQ ok.t.s.v.g G.D G.l G.g G.s G.n a h1;clear w;obtain ⟨D,l,g,s,n,c,b,ii,o,kk,vv,gv⟩:=G;dsimp only at *
  refine Ab ok.t.s.v.g.n.k114 rfl fun x hx=>?_;refine eX ?_;simp only [Zv,Y0,Gs.H,As,Av,Ad,Au,A6,AQ,AM,Cl.v,DG,Hd.v,Fm,seval];have zz:=UW @c9 @c8 @b9 @b8 @k7 @l8 @b7;refine Z8 [0,1,2] [0] (hF) ?_;simp only [Bb,As,Av,Ad,Cl.v,Cl.zero,Ex,seval];refine Ap.mk hx [0,1,2,3,68] [] (.ifc 145 (.ptr 4 [])) _ 5 Al (by (simp only [Di,seval])) (by simp only [LV,Ai,LY,seval]) ?_ ⟨rfl,rfl,rfl⟩;simp only [Gs.H,As,Av,Ad,Au,Cl.v,A6,AQ,AM,Ex,dg,B3,LY,seval]
 rw [if_neg h1];obtain ⟨p,rfl⟩:∃ p:Nat,a=p:=⟨a.toNat,by omega⟩
 have hp:p < G.n:=Aa;rw [Int.toNat_natCast];cases hrs:(G.c p).rs with
 | true =>
   rw [if_pos rfl];refine ⟨fun e he=>?_,fun h=>by cases h⟩;cases he;have hF:=L2 ok.t.s.v.g G.D G.l G.g G.s G.n G.c p hp hrs;clear w;obtain ⟨D,l,g,s,n,c,b,ii,o,kk,vv,gv⟩:=G;dsimp only at *
   refine Ab ok.t.s.v.g.n.k114 rfl fun x hx=>?_;refine eX ?_;simp only [Zv,Y0,Gs.H,As,Av,Ad,Au,A6,AQ,AM,Cl.v,DG,Hd.v,Fm,seval];have zz:=Qe @c9 @c8 @b9 @f7 @b8 @k7 @l8 @b7;refine Z8 [0,1,2] [0,1] (hF) ?_;simp only [Bb,As,Av,Ad,Au,Cl.v,Cl.zero,Ex,seval];refine Ap.mk hx [0,1,2,3,68] [] (.ifc 145 (.ptr 4 [])) _ 5 Al (by (simp only [Di,seval])) (by simp only [LV,Ai,LY,seval]) ?_ ⟨rfl,rfl,rfl⟩;simp only [Gs.H,As,Av,Ad,Au,Cl.v,A6,AQ,AM,Ex,dg,B3,LY,seval]
 | false =>
   rw [if_neg Al];have hF:=HH ok.t.s.v.g G.D G.l G.g G.s G.n G.c p hp hrs;have hS:=Xm ok.t G w vf R hd L pr hV p hp df pl t;generalize G.stE vf p df pl t=E at *
   clear w hV;obtain ⟨D,l,g,s,n,c,b,ii,o,kk,vv,gv⟩:=G;dsimp only [Gs.tT] at *
   simp only [Int.toNat_natCast];simp only [Cl.v,Ad,hrs] at hS;simp only [Gs.H,As,Av,Ad] at hS;simp only [DG,Hd.v,Ba] at hS;have hA:=fun e=>I2 ok.t.s.v.g p e;cases E with
   | some e =>
     refine ⟨fun e' he=>?_,fun h=>by cases h⟩;cases he;simp only [AA] at hS;refine Ab ok.t.s.v.g.n.k114 rfl fun x hx=>?_;refine eX ?_;simp only [Zv,Y0,Gs.H,As,Av,Ad,Au,A6,AQ,AM,Cl.v,DG,Hd.v,Fm,seval];have zz:=Gb @c9 @c8 @b9 @f7 @b8 @b7;refine By [0,1,2] [0,1] (hF) ?_;simp only [Bb,As,Av,Ad,Au,Cl.v,hrs,seval];have zz:=T5 @c9 @c8 @b9 @f7 @j4 @l7 @j8 @b8 @b7 Jq;refine By [0,1,2,3] [0,1,2,3] (hS) ?_;simp only [Bb,As,Av,Ad,Au,A6,AQ,AM,Cl.v,seval];have zz:=@l8;refine Jp (hA e) ?_;simp only [Bb,Ex,seval];refine Ap.mk hx [0,1,2,3,420] [] (.ifc 145 (.ptr 4 [])) _ 5 Al (by (simp only [Di,seval])) (by simp only [LV,Ai,LY,seval]) ?_ ⟨rfl,rfl,rfl⟩;simp only [Gs.H,As,Av,Ad,Au,Cl.v,A6,AQ,AM,Ex,dg,hrs,B3,LY,seval]
   | none =>
     refine ⟨fun e' he=>(by cases he),fun _=>?_⟩;simp only [BS] at hS;have d2:((p:Int) < (n:Int))=True:=eq_true Aa;have d3:(0≤(p:Int))=True:=eq_true Aa;refine Ab ok.t.s.v.g.n.k114 rfl fun x hx=>?_;refine eX ?_;simp only [Zv,Y0,Gs.H,As,Av,Ad,Au,A6,AQ,AM,Cl.v,DG,Hd.v,Fm,seval];have zz:=Gb @c9 @c8 @b9 @f7 @b8 @b7;refine By [0,1,2] [0,1] (hF) ?_;simp only [Bb,As,Av,Ad,Au,Cl.v,hrs,seval];have zz:=T5 @c9 @c8 @b9 @f7 @j4 @l7 @j8 @b8 @b7 Jq;refine By [0,1,2,3] [0,1,2,3] (hS) ?_;simp only [Bb,As,Av,Ad,Au,A6,AQ,AM,Cl.v,d2,d3,seval];repeat refine sd ?_
     refine Ap.mk hx [0,1,2,3] [] .nili _ 4 Al (by (simp only [Di,seval])) (by simp only [LV,Ai,LY,seval]) ?_ ⟨rfl,rfl,rfl⟩;simp only [Gs.H,As,Av,Ad,Au,Cl.v,A6,AQ,AM,dg,LY,seval];intro j hj;by_cases h:j=p
     ·subst h;simp only [if_true,hrs,LY,seval]
     ·simp only [h,if_false,LY,seval]
def Gs.rE (G:Gs) (a:Int) (t:BitVec 64):Option Int :=
 if a < 0 ∨ (G.n:Int)≤a then some 4
 else if (G.c a.toNat).rs=true then some 41
 else G.rsE a.toNat t
structure Gs.bd (G:Gs):Prop where
 bond:∀ j,j < G.n→(G.c j).bond=j∧G.gv j=(G.c j).rs
 by':∀ j,j < G.n→∃ p:Nat,p < 8∧(G.c j).by'=p
 pl:∀ j,j < G.n→∃ p:Nat,p < 8∧(G.c j).pl=p
theorem Gs.rsB_lt {G:Gs} (h:G.bd) {a:Nat} (ha:a < G.n):∃ p:Nat,p < 8∧G.rsB a=p:=by
 unfold Gs.rsB;cases hb:Ee G.c a G.n with
 | none=>exact h.by' a ha
 | some j =>
   dsimp only;split
   ·exact h.by' a ha
   ·exact h.pl j (OX _ _ _ _ hb).1
theorem ML (ok:OkGr M) (G:Gs) (w:G.wf) (wb:G.bd) (a:Int) (t:BitVec 64) :
 (∀ e,G.rE a t=some e→Ae M 115 [.ptr 0 [],.int .i64 a,W t] G.H 4 (Q3 (.ifc 145 (.ptr 4 [])) (G.H ++ [(4,Ex a e)]) 5)) ∧
 (G.rE a t=none→Ae M 115 [.ptr 0 [],.int .i64 a,W t] G.H 4 (Q3 .nili ((G.rsv a.toNat).H) 4)):=by
 have hD:=w.hD;have hn:=w.hn;have hA:=fun e=>I2 ok.t.s.v.g a e;have hA0:=Mt ok.t.s.v.g a;have key:∀ e,(Ae M 252 [.ptr 0 [],.int .i64 a,W t] G.H 4 (Q3 (er e) G.H 4))→Ae M 115 [.ptr 0 [],.int .i64 a,W t] G.H 4 (Q3 (.ifc 145 (.ptr 4 [])) (G.H ++ [(4,Ex a e)]) 5):=fun e hR=>by
  have hA:=hA e;clear hA0 w wb;obtain ⟨D,l,g,s,n,c,b,ii,o,kk,vv,gv⟩:=G;dsimp only at *
  simp only [Gs.H,As,Av,Ad] at hR;refine Ab ok.t.s.v.g.n.k115 rfl fun x hx=>?_;refine eX ?_;simp only [Aoe,Aop,Gs.H,As,Av,Ad,Au,A6,AQ,AM,Cl.v,LZ,seval];have zz:=aq9 @c9 @c8 @b9 @f7 @j4 @l7 @j8 @b8 @b7;refine By [0,1,2,3] [0,1,2,3] (hR) ?_;simp only [As,Av,Ad,Au,A6,AQ,AM,Cl.v,LZ,seval];have zz:=@l8;refine Jp (hA) ?_;simp only [Ex,LZ,seval];refine Ap.mk hx [0,1,2,3,132] [] (.ifc 145 (.ptr 4 [])) _ 5 Al (by (simp only [Di,seval])) (by simp only [LV,Ai,LY,seval]) ?_ ⟨rfl,rfl,rfl⟩;simp only [Gs.H,As,Av,Ad,Au,Cl.v,A6,AQ,AM,Ex,dg,B3,LY,seval]
 unfold Gs.rE;by_cases h1:a < 0 ∨ (G.n:Int)≤a
 ·rw [if_pos h1];refine ⟨fun e he=>?_,fun h=>by cases h⟩;cases he;refine key 4 ?_;clear key hA hA0 w wb;obtain ⟨D,l,g,s,n,c,b,ii,o,kk,vv,gv⟩:=G;dsimp only at *
  refine Ab ok.k252 rfl fun x hx=>?_;by_cases h0:a < 0
  ·refine eX ?_;simp only [Zy,Ab6,Gs.H,As,Av,Ad,Au,A6,AQ,AM,Cl.v,h0,LZ,seval];have zz:=AY @b7 @b8;exact AI hx [0,1,2,3] ⟨rfl,rfl,rfl⟩
  ·have h1:(n:Int)≤a:=h1.resolve_left h0;refine eX ?_;simp only [Zy,Ab6,Gs.H,As,Av,Ad,Au,A6,AQ,AM,Cl.v,h0,h1,LZ,seval];have zz:=AY @b7 @b8;exact AI hx [0,1,2,3] ⟨rfl,rfl,rfl⟩
 rw [if_neg h1];obtain ⟨p,rfl⟩:∃ p:Nat,a=p:=⟨a.toNat,by omega⟩
 have hp:p < G.n:=Aa;rw [Int.toNat_natCast];cases hrs:(G.c p).rs with
 | true =>
   rw [if_pos rfl];refine ⟨fun e he=>?_,fun h=>by cases h⟩;cases he;refine key 41 ?_;clear key hA hA0 w wb;obtain ⟨D,l,g,s,n,c,b,ii,o,kk,vv,gv⟩:=G;dsimp only at *
   have d0:((p:Int) < 0)=False:=eq_false Aa;have d1:((n:Int)≤(p:Int))=False:=eq_false Aa;have d2:((p:Int) < (n:Int))=True:=eq_true Aa;have d3:(0≤(p:Int))=True:=eq_true Aa;refine Ab ok.k252 rfl fun x hx=>?_;refine eX ?_;simp only [Zy,Ab6,Gs.H,As,Av,Ad,Au,A6,AQ,AM,Cl.v,d0,d1,d2,d3,hrs,LZ,seval];repeat refine sd ?_
   have zz:=AY @b7 @b8;exact AI hx [0,1,2,3] ⟨rfl,rfl,rfl⟩
 | false =>
   rw [if_neg Al];have hR:=Om ok G w p hp hrs (wb.bond p hp).1 ((wb.bond p hp).2.trans hrs) (G.rsB_lt wb hp) t;cases hE:G.rsE p t with
   | some e =>
     rw [hE] at hR;refine ⟨fun e' he=>?_,fun h=>by cases h⟩;cases he;exact key e hR
   | none =>
     rw [hE] at hR;refine ⟨fun e' he=>(by cases he),fun _=>?_⟩;clear key hA w wb;simp only [BS] at hR;generalize G.rsv p=X at *
     obtain ⟨D,l,g,s,n,c,b,ii,o,kk,vv,gv⟩:=G;obtain ⟨D',l',g',s',n',c',b',ii',o',kk',vv',gv'⟩:=X;dsimp only at *
     simp only [Gs.H,As,Av,Ad] at hR;refine Ab ok.t.s.v.g.n.k115 rfl fun x hx=>?_;refine eX ?_;simp only [Aoe,Aop,Gs.H,As,Av,Ad,Au,A6,AQ,AM,Cl.v,LZ,seval];have zz:=aq9 @c9 @c8 @b9 @f7 @j4 @l7 @j8 @b8 @b7;refine By [0,1,2,3] [0,1,2,3] (hR) ?_;simp only [As,Av,Ad,Au,A6,AQ,AM,Cl.v,LZ,seval];refine Aj (hA0) ?_;simp only [LZ,seval];have zz:=AY @b7 @b8;exact AI hx [0,1,2,3] ⟨rfl,rfl,rfl⟩
theorem CS (ok:OkGr M) (d:Int) (l g:BitVec 64) (s:Dg) (n:Nat) (c:Nat→Cl) (a:Nat) (ha:a < n) :
 Ae M 111 [.ptr 0 [],.int .i64 a] [(0,As d l g s (.ptr 2 []) (.sl 1 [] 0 n 42)),(1,Au n c)] 3 (Q3 (Ai (c a).v .nili) [(0,As d l g s (.ptr 2 []) (.sl 1 [] 0 n 42)),(1,Au n c)] 3):=by
 have d0:((a:Int) < 0)=False:=eq_false Aa;have d1:((n:Int)≤(a:Int))=False:=eq_false Aa;have d2:((a:Int) < (n:Int))=True:=eq_true Aa;have d3:(0≤(a:Int))=True:=eq_true Aa;refine Ab ok.t.s.v.g.n.k111 rfl fun x hx=>?_;refine eX ?_;simp only [Af4,Adg,As,Av,Ad,Au,Cl.v,d0,d1,d2,d3,LZ,seval];repeat refine sd ?_
 have zz:=D0 @d9 @b7 @b8 @f7;exact AI hx [0,1,2] ⟨rfl,rfl,rfl⟩
theorem R9 (ok:OkGr M) (d:Int) (l g:BitVec 64) (s:Dg) (n:Nat) (a:Int) (ha:a < 0 ∨ (n:Int)≤a) :
 Ae M 111 [.ptr 0 [],.int .i64 a] [(0,As d l g s (.ptr 2 []) (.sl 1 [] 0 n 42))] 3 (Q3 (Ai Cl.zero.v (er 4)) [(0,As d l g s (.ptr 2 []) (.sl 1 [] 0 n 42))] 3):=by
 refine Ab ok.t.s.v.g.n.k111 rfl fun x hx=>?_;by_cases h0:a < 0
 ·refine eX ?_;simp only [Af4,Adg,As,Av,Ad,h0,LZ,seval];have zz:=Em @d9 @b7 @b8 @k7 @b9;exact AI hx [0,1,2] ⟨rfl,rfl,rfl⟩
 ·have h1:(n:Int)≤a:=ha.resolve_left h0;refine eX ?_;simp only [Af4,Adg,As,Av,Ad,h0,h1,LZ,seval];have zz:=Em @d9 @b7 @b8 @k7 @b9;exact AI hx [0,1,2] ⟨rfl,rfl,rfl⟩
theorem E4 (ok:OkGr M) (d:Int) (l g:BitVec 64) (s:Dg) (n:Nat) :
 Ae M 117 [.ptr 0 []] [(0,As d l g s (.ptr 2 []) (.sl 1 [] 0 n 42))] 3 (Q3 (.int .i64 n) [(0,As d l g s (.ptr 2 []) (.sl 1 [] 0 n 42))] 3):=by
 refine Ab ok.t.s.v.g.n.k117 rfl fun x hx=>?_;refine eX ?_;simp only [Arg,As8,As,Av,Ad,LZ,seval];have zz:=@b7;exact AI hx [0,1,2] ⟨rfl,rfl,rfl⟩
theorem EW (ok:OkGr M) (d:Int) (l g:BitVec 64) (s:Dg) (n:Nat) :
 Ae M 119 [.ptr 0 []] [(0,As d l g s (.ptr 2 []) (.sl 1 [] 0 n 42))] 3 (Q3 (Av d l g s) [(0,As d l g s (.ptr 2 []) (.sl 1 [] 0 n 42))] 3):=by
 refine Ab ok.t.s.v.g.n.k119 rfl fun x hx=>?_;refine eX ?_;simp only [Ao2,Aua,As,Av,Ad,LZ,seval];have zz:=Cv @b7 @c8 @b9;exact AI hx [0,1,2] ⟨rfl,rfl,rfl⟩
end Mv
