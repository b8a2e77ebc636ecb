/- A part. -/
import Derived.Test.YtfljfijnobocoaaDoorHE
set_option linter.all false
set_option maxRecDepth 4000
set_option maxHeartbeats 2000000
namespace Mv
open Go
variable {M:Seat} {w:Nat→BitVec 64} {C B fz ent:Nat} {at':BitVec 64→BitVec 64→BitVec 64→BitVec 64} {en:Nat→Nat} {f g:Nat→BitVec 64}
theorem N1 (ok:OkV M) (cx:Cx M w C B fz ent at') {T:Cd} {r:Nat} (hr:r < 10) (hA:Ag w fz en (CI T r)) (hw:WFc T) (hl:Bi T.P T.fn=0) (hz:(CI T r).most + 1≤fz) (hC:(CI T r).words.length≤C) (hI:Iv w C B f g) :
 Rn M (DY f g T.words.length) (DY (Df f (B + 1 + T.temps) (g r)) g (CI T r).words.length) 1∧Iv w C B (Df f (B + 1 + T.temps) (g r)) g:=by
 have hcb:=cx.cb;have htop:=cx.top;have hp:Eb T T.temps=((1 + T.temps:Nat):Int):=by unfold Eb;rw [hl];omega
 have hm:T.temps + 1≤(CI T r).most:=Nat.le_max_right _ _;have hA':Ag w fz en (A5 T 28 0 14 r 0 (Eb T T.temps)):=⟨hA.wd,hA.sw,hA.cw⟩
 have hW:(CI T r).words.length=(A5 T 28 0 14 r 0 (Eb T T.temps)).words.length:=rfl;rw [hW] at hC ⊢;rw [hp] at hA' hC ⊢;have s:=eSt (g:=g) (f:=f) ok hA' hw hC Aa hI.co Aa Aa Aa (B + 1 + T.temps) Aa (by rw [hI.g14,Du,Nat.add_assoc]);exact ⟨Rn.step rfl s (Rn.refl ..),hI.g14,hI.g12,fun i hi=>(Co Aa).trans (hI.co i hi)⟩
structure EOK (M:Seat) (w:Nat→BitVec 64) (C B fz:Nat) (en:Nat→Nat) (x:Ex) (v:BitVec 64) (c k r:Nat) (S:Cd):Prop where
 sta:∃ m n,Sta S (AO k x r S) 0 m n
 ext:Ext S (AO k x r S)
 run:Ag w fz en (AO k x r S)→(AO k x r S).most + 1≤fz→(AO k x r S).words.length≤C→∀ f g,Iv w C B f g →
  ∃ f' g' c',c'≤c∧Rn M (DY f g S.words.length) (DY f' g' (AO k x r S).words.length) c'∧Iv w C B f' g'∧g' r=v∧∀ i,i < B + 1 + S.temps→f' i=f i
theorem EOK.of {x:Ex} {v:BitVec 64} {c k r:Nat} {S X:Cd} (e:AO k x r S=X) (h:(∃ m n,Sta S X 0 m n)∧Ext S X∧(Ag w fz en X→X.most + 1≤fz→X.words.length≤C→∀ f g,Iv w C B f g→∃ f' g' c',c'≤c∧Rn M (DY f g S.words.length) (DY f' g' X.words.length) c'∧Iv w C B f' g'∧g' r=v∧∀ i,i < B + 1 + S.temps→f' i=f i)):EOK M w C B fz en x v c k r S:=by
 subst e;exact ⟨h.1,h.2.1,h.2.2⟩
theorem Ou (ok:OkV M) (okP:OkP M) (cx:Cx M w C B fz ent at') (he:en 1=ent):∀ (k:Nat) (x:Ex) (v:BitVec 64) (c:Nat),Sx at' k x v c→∀ r S,r < 10→WFc S→S.temps≤S.most→Bi S.P S.fn=0→EOK M w C B fz en x v c k r S
 | 0,_,_,_,h,_,_,_,_,_,_=>by cases h
 | k + 1, _, _, _, .num _ v, r, S, hr, hw, hm, hl => by
   have hcb:=cx.cb;have htop:=cx.top;refine ⟨⟨_,_,Sta.cn S r v⟩,Ext.cn S r v,fun hA hz hC f g hI=>?_⟩;obtain ⟨g',c,h1,h2,h3,h4⟩:=Afj ok okP Aa r hr v hA hw hC hI;exact ⟨f,g',c,h1,h2,h3,h4,fun _ _=>rfl⟩
 | k + 1, _, _, _, .call _ x y z u v q a b c hx hy hz, r, S, hr, hw, hm, hl => by
   have hcb:=cx.cb;have htop:=cx.top;have E1:=Ou ok okP cx he k x u a hx 0 S Aa hw hm hl;obtain ⟨m1,n1,t1⟩:=E1.sta;have x1:=E1.ext;have hw1:=t1.wf hw;have r1:=E1.run;have e1:AO (k + 1) (.mk 29 1#64 [x,y,z]) r S=caF (Bp (CI (AO k z 0 (CI (AO k y 0 (CI (AO k x 0 S) 0)) 0)) 0) S.temps) S.temps 3 1 r:=rfl;refine EOK.of e1 ?_;generalize AO k x 0 S=T1 at *
   have sv1:=Sta.sv T1 0;have xv1:=Ext.sv T1 0;have wv1:=sv1.wf hw1;have tv1:(CI T1 0).temps=T1.temps + 1:=rfl;have mv1:(CI T1 0).most=max T1.most (T1.temps + 1):=rfl;have lv1:Bi (CI T1 0).P (CI T1 0).fn=0:=by rw [sv1.P,sv1.fn,t1.P,t1.fn];exact hl
   have l1:Bi T1.P T1.fn=0:=by rw [t1.P,t1.fn];exact hl
   have R1:=fun (f g:Nat→BitVec 64) (hA:Ag w fz en (CI T1 0)) hz hC (hI:Iv w C B f g)=>N1 (f:=f) (g:=g) (r:=0) ok cx Aa hA hw1 l1 hz hC hI;have et1:=t1.temps;have E2:=Ou ok okP cx he k y v b hy 0 (CI T1 0) Aa wv1 Aa lv1;obtain ⟨m2,n2,t2⟩:=E2.sta;have x2:=E2.ext;have r2:=E2.run;generalize CI T1 0=U1 at *
   have hw2:=t2.wf wv1;have et2:=t2.temps;have l2:Bi (AO k y 0 U1).P (AO k y 0 U1).fn=0:=by rw [t2.P,t2.fn];exact lv1
   generalize AO k y 0 U1=T2 at *
   have sv2:=Sta.sv T2 0;have xv2:=Ext.sv T2 0;have wv2:=sv2.wf hw2;have tv2:(CI T2 0).temps=T2.temps + 1:=rfl;have mv2:(CI T2 0).most=max T2.most (T2.temps + 1):=rfl;have lv2:Bi (CI T2 0).P (CI T2 0).fn=0:=by rw [sv2.P,sv2.fn];exact l2
   have R2:=fun (f g:Nat→BitVec 64) (hA:Ag w fz en (CI T2 0)) hz hC (hI:Iv w C B f g)=>N1 (f:=f) (g:=g) (r:=0) ok cx Aa hA hw2 l2 hz hC hI;have E3:=Ou ok okP cx he k z q c hz 0 (CI T2 0) Aa wv2 Aa lv2;obtain ⟨m3,n3,t3⟩:=E3.sta;have x3:=E3.ext;have r3:=E3.run;generalize CI T2 0=U2 at *
   have hw3:=t3.wf wv2;have et3:=t3.temps;have l3:Bi (AO k z 0 U2).P (AO k z 0 U2).fn=0:=by rw [t3.P,t3.fn];exact lv2
   generalize AO k z 0 U2=T3 at *
   have sv3:=Sta.sv T3 0;have xv3:=Ext.sv T3 0;have wv3:=sv3.wf hw3;have tv3:(CI T3 0).temps=T3.temps + 1:=rfl;have mv3:(CI T3 0).most=max T3.most (T3.temps + 1):=rfl;have wo3:(CI T3 0).words=(Bp (CI T3 0) S.temps).words:=rfl;have lv3:Bi (CI T3 0).P (CI T3 0).fn=0:=by rw [sv3.P,sv3.fn];exact l3
   have R3:=fun (f g:Nat→BitVec 64) (hA:Ag w fz en (CI T3 0)) hz hC (hI:Iv w C B f g)=>N1 (f:=f) (g:=g) (r:=0) ok cx Aa hA hw3 l3 hz hC hI;have st:Sta S (CI T3 0) 3 (m1 + m2 + m3 + T3.temps + 1) (n1 + 1 + n2 + 1 + n3 + 1) :=
    (((((t1.trans sv1 (m1 + m2 + m3 + T3.temps + 1) Aa Aa).trans t2 (m1 + m2 + m3 + T3.temps + 1) Aa Aa).trans sv2 (m1 + m2 + m3 + T3.temps + 1) Aa Aa).trans t3 (m1 + m2 + m3 + T3.temps + 1) Aa Aa).trans sv3 (m1 + m2 + m3 + T3.temps + 1) Aa Aa)
   have xt:Ext S (CI T3 0):=((((x1.trans xv1).trans x2).trans xv2).trans x3).trans xv3;generalize hU3:CI T3 0=U3 at *
   have sp:=st.tp;have wp:=sp.wf hw;have lp:Bi (Bp U3 S.temps).P (Bp U3 S.temps).fn=0:=lv3;have tp:(Bp U3 S.temps).temps=S.temps:=rfl;have mp:(Bp U3 S.temps).most=U3.most:=rfl;have agp:Ag w fz en (Bp U3 S.temps)→Ag w fz en U3:=fun h=>⟨h.wd,h.sw,h.cw⟩
   have xp:Ext U3 (Bp U3 S.temps):=Ext.tp ..;have wop:(Bp U3 S.temps).words=U3.words:=rfl;have cF:=fun (f g:Nat→BitVec 64) (hA:Ag w fz en (caF (Bp U3 S.temps) (Bp U3 S.temps).temps 3 1 r)) h1 h2 h3 hI=>Acu (f:=f) (g:=g) ok okP cx he hr hA wp lp h1 h2 h3 hI;rw [tp,mp,wop] at cF;have xF:=Ext.caF (Bp U3 S.temps) S.temps 3 1 r;have sF:=RG (Bp U3 S.temps) S.temps 3 1 r;have mF:=XX (Bp U3 S.temps) S.temps 1 r;have g1:=x1.most;have g2:=x2.most;have g3:=x3.most;generalize Bp U3 S.temps=V at *
   generalize caF V S.temps 3 1 r=Z at *
   refine ⟨⟨_,_,sp.trans sF (m1 + m2 + m3 + T3.temps + 1) Aa Aa⟩,(xt.trans xp).trans xF,fun hA hz hC f g hI=>?_⟩;have aVq:=hA.mono xF wp;have aU3:=agp aVq;have aT3:=aU3.mono xv3 hw3;have aU2:=aT3.mono x3 wv2;have aT2:=aU2.mono xv2 hw2;have aU1:=aT2.mono x2 wv1;have aT1:=aU1.mono xv1 hw1;have le1:=xv1.len;have le2:=x2.len;have le3:=xv2.len;have le4:=x3.len;have le5:=xv3.len;have le6:=xF.len;rw [wop] at le6;obtain ⟨f1,g1',c1,hc1,q1,i1,v1,k1⟩:=r1 aT1 Aa Aa f g hI;obtain ⟨p1,j1⟩:=R1 f1 g1' aU1 Aa Aa i1;obtain ⟨f2,g2',c2,hc2,q2,i2,v2,k2⟩:=r2 aT2 Aa Aa _ g1' j1;obtain ⟨p2,j2⟩:=R2 f2 g2' aU2 Aa Aa i2;obtain ⟨f3,g3',c3,hc3,q3,i3,v3,k3⟩:=r3 aT3 Aa Aa _ g2' j2;obtain ⟨p3,j3⟩:=R3 f3 g3' aU3 Aa Aa i3;obtain ⟨f4,g4',c4,hc4,q4,i4,v4,k4⟩:=cF _ g3' hA Aa Aa hC j3;refine ⟨f4,g4',_,?_,(((((q1.trans p1).trans q2).trans p2).trans q3).trans p3).trans q4,i4,?_,fun i hi=>?_⟩
   ·omega
   ·rw [v4];have b1:T1.temps=S.temps:=et1;have b2:T2.temps=S.temps + 1:=Aa;have b3:T3.temps=S.temps + 2:=Aa
    congr 1
    ·rw [Co Aa,k3 _ Aa,Co Aa,k2 _ Aa,b1,GG,v1]
    ·rw [Co Aa,k3 _ Aa,b2,GG,v2]
    ·rw [b3,GG,v3]
   ·rw [k4 _ Aa,Co Aa,k3 _ Aa,Co Aa,k2 _ Aa,Co Aa,k1 _ Aa]
end Mv
namespace Mv
open Go
def PD:IrSt:=.mk 0 0 Ch Ch [] []
def KY (S:Cd):Cd:={ A5 S 29 0 0 0 0 0 with backs:=S.backs ++ [S.words.length] }
def Ga (S:Cd) (at':Nat):Cd:=Ei S at' S.words.length
def KQ (bl:List IrSt→Cd→Cd):IrSt→Cd→Cd
 | .mk kind n a b body els, S =>
   if kind=1 then A5 (AO 8 a 0 S) 28 0 14 0 0 n
   else if kind=2 then A5 (F4 (NO (AO 8) [a,b] S) 1 2048) 28 0 1 2 0 S.base
   else if kind=3 then
    Ga (bl els (Ga (A5 (bl body (A5 (AO 8 a 0 S) 30 0 0 0 0 0)) 29 0 0 0 0 0) (AO 8 a 0 S).words.length)) (bl body (A5 (AO 8 a 0 S) 30 0 0 0 0 0)).words.length
   else if kind=4 then
    Ga (A5 (bl body (A5 (AO 8 a 0 S) 30 0 0 0 0 0)) 29 0 0 0 0 S.words.length) (AO 8 a 0 S).words.length
   else if kind=5 then KY (AO 8 a 0 S)
   else if kind=6 then AO 8 a 0 S
   else A5 (AO 8 a 0 S) 0 0 0 0 0 0
def Ll (f:IrSt→Cd→Cd) (ss:List IrSt) (S:Cd):Nat→Cd
 | 0=>S
 | j + 1=>f (ss.getD j PD) (Ll f ss S j)
def P6:Nat→IrSt→Cd→Cd
 | 0=>KQ fun _ S=>S
 | k + 1=>KQ fun ss S=>Ll (P6 k) ss S ss.length
theorem Sta.pt (S:Cd) (a n:Nat):Sta S (Ei S a n) 0 0 0:=by
 have hl:=Hl S a n;refine ⟨rfl,rfl,rfl,rfl,rfl,rfl,Nat.le_max_left _ _,by omega,by omega,fun h=>?_⟩;have h1:=h.bl;have h2:=h.sl;have h3:=h.kll;have h4:=h.cl;refine ⟨?_,?_,?_,?_,fun p hp=>?_,fun p hp=>?_,fun p hp=>?_,fun p hp=>?_,h.cs⟩ <;> rw [hl]
 ·exact h1
 ·exact h2
 ·exact h3
 ·exact h4
 ·exact h.ck p hp
 ·exact h.bk p hp
 ·exact h.sk p hp
 ·exact h.kk p hp
theorem Sta.he (S:Cd) (a:Nat):Sta S (Ga S a) 0 0 0:=Sta.pt S a _
theorem Sta.bk (S:Cd):Sta S (KY S) 0 0 1:=by
 have e:=Sta.em S 29 0 0 0 0 0;have hl:(KY S).words.length=S.words.length + 1:=Aj S 29 0 0 0 0 0;refine ⟨rfl,rfl,rfl,rfl,rfl,rfl,e.most,e.words,e.grow,fun h=>?_⟩;have g:=e.wf h;have hb:=h.kll;refine ⟨g.bl,g.sl,?_,g.cl,g.ck,g.bk,g.sk,fun p hp=>?_,g.cs⟩
 ·rw [hl];show (S.backs ++ [S.words.length]).length≤_;rw [Ew];omega
 ·rw [hl];rcases List.mem_append.1 (show p ∈ S.backs ++ [S.words.length] from hp) with hp | hp
  ·have:=h.kk p hp;omega
  ·simp at hp;omega
def BOK (bl:List IrSt→Cd→Cd) (ss:List IrSt) (c:Nat):Prop:=∀ S,Sta S (bl ss S) 0 (S.temps + c) (24 * c)
theorem Gk {f:IrSt→Cd→Cd} {ss:List IrSt} {c:Nat→Nat} (hf:∀ j,j < ss.length→∀ S,Sta S (f (ss.getD j PD) S) 0 (S.temps + c j) (24 * c j)) (S:Cd):∀ j,j≤ss.length→Sta S (Ll f ss S j) 0 (S.temps + Be c j) (24 * Be c j)
 | 0,_=>Sta.refl S _
 | j + 1, h => by
   have h1:=Gk hf S j Aa;have e:=C8 c j;have h2:=hf j Aa (Ll f ss S j);exact (h1.trans h2 (S.temps + Be c (j + 1)) Aa (by rw [h1.temps,e];omega)).mono (Nat.le_refl _) Aa
theorem SH (P:List Fu) (i k:Nat) (a b:Ex) (ca cb:Nat) (ha:RE P i k a ca) (hb:RE P i k b cb):SA (AO k) [a,b] (fun j=>if j=0 then ca else cb):=fun j hj=>by
 have hj2:j=0 ∨ j=1:=by have:j < 2:=hj;omega
 rcases hj2 with rfl | rfl
 ·exact Ce P i k a ca ha
 ·exact Ce P i k b cb hb
theorem OZ (P:List Fu) (i k:Nat) (a b:Ex) (ca cb:Nat) (ha:RE P i k a ca) (hb:RE P i k b cb):∀ j,j < [a,b].length→Jl ([a,b].getD j Ch)=true→∀ r S,Sta S (AO k ([a,b].getD j Ch) r S) 0 0 (24 * (if j=0 then ca else cb) - 3):=fun j hj=>by
 have hj2:j=0 ∨ j=1:=by have:j < 2:=hj;omega
 rcases hj2 with rfl | rfl
 ·exact Hq P i k a ca ha
 ·exact Hq P i k b cb hb
theorem Sj (ca cb:Nat):Be (fun j=>if j=0 then ca else cb) 2=ca + cb:=by
 rw [C8,C8];simp [Be]
theorem Sr (P:List Fu) (i l:Nat) (bl:List IrSt→Cd→Cd) (hbl:∀ ss c,RB P i l ss c→BOK bl ss c):∀ (s:IrSt) (c:Nat),RgS P i l s c→∀ S,Sta S (KQ bl s S) 0 (S.temps + c) (24 * c):=by
 intro s c h S;cases h with
 | set _ n a b bo el ca h0 h1 ha =>
   obtain ⟨g1,g2⟩:=Ce P i 8 a ca ha;simp only [KQ,if_true];exact ((g2 0 S).trans (Sta.em _ _ _ _ _ _ _) (S.temps + (1 + ca)) Aa Aa).mono (Nat.le_refl _) Aa
 | store _ n a b bo el ca cb ha hb =>
   have g:=Js (SH P i 8 a b ca cb ha hb) (OZ P i 8 a b ca cb ha hb) S;have e:Be (fun j=>if j=0 then ca else cb) [a,b].length=ca + cb:=Sj ca cb;rw [e] at g;simp only [KQ,show ((2:Int)=1)=False by decide,Dh];exact ((g.trans (Sta.bd _ 1 2048) (S.temps + (1 + ca + cb)) Aa Aa).trans (Sta.em _ _ _ _ _ _ _) (S.temps + (1 + ca + cb)) Aa Aa).mono (Nat.le_refl _) Aa
 | branch _ n a b bo el ca cb ce ha hb he =>
   obtain ⟨g1,g2⟩:=Ce P i 8 a ca ha;simp only [KQ,show ((3:Int)=1)=False by decide,show ((3:Int)=2)=False by decide,Dh];have k1:=(g2 0 S).trans (Sta.em _ 30 0 0 0 0 0) (S.temps + (1 + ca + cb + ce)) Aa Aa;have t1:=k1.temps;have k2:=k1.trans (hbl bo cb hb _) (S.temps + (1 + ca + cb + ce)) Aa (by rw [t1];omega);have k3:=(k2.trans (Sta.em _ 29 0 0 0 0 0) (S.temps + (1 + ca + cb + ce)) Aa Aa).trans (Sta.he _ (AO 8 a 0 S).words.length) (S.temps + (1 + ca + cb + ce)) Aa Aa;have t3:=k3.temps;have k4:=(k3.trans (hbl el ce he _) (S.temps + (1 + ca + cb + ce)) Aa (by rw [t3];omega)).trans (Sta.he _ (bl bo (A5 (AO 8 a 0 S) 30 0 0 0 0 0)).words.length) (S.temps + (1 + ca + cb + ce)) Aa Aa;exact k4.mono (Nat.le_refl _) Aa
 | loop _ n a b bo el ca cb ha hb =>
   obtain ⟨g1,g2⟩:=Ce P i 8 a ca ha;simp only [KQ,show ((4:Int)=1)=False by decide,show ((4:Int)=2)=False by decide,show ((4:Int)=3)=False by decide,Dh];have k1:=(g2 0 S).trans (Sta.em _ 30 0 0 0 0 0) (S.temps + (1 + ca + cb)) Aa Aa;have t1:=k1.temps;have k2:=k1.trans (hbl bo cb hb _) (S.temps + (1 + ca + cb)) Aa (by rw [t1];omega);have k3:=(k2.trans (Sta.em _ 29 0 0 0 0 S.words.length) (S.temps + (1 + ca + cb)) Aa Aa).trans (Sta.he _ (AO 8 a 0 S).words.length) (S.temps + (1 + ca + cb)) Aa Aa;exact k3.mono (Nat.le_refl _) Aa
 | other _ k n a b bo el ca h5 h7 ha =>
   obtain ⟨g1,g2⟩:=Ce P i 8 a ca ha;simp only [KQ];rw [if_neg Aa,if_neg Aa,if_neg Aa,if_neg Aa];split
   ·exact ((g2 0 S).trans (Sta.bk _) (S.temps + (1 + ca)) Aa Aa).mono (Nat.le_refl _) Aa
   split
   ·exact (g2 0 S).mono Aa Aa
   ·exact ((g2 0 S).trans (Sta.em _ _ _ _ _ _ _) (S.temps + (1 + ca)) Aa Aa).mono (Nat.le_refl _) Aa
theorem HF (P:List Fu) (i:Nat):∀ (k:Nat) (s:IrSt) (c:Nat),RgS P i k s c→∀ S,Sta S (P6 k s S) 0 (S.temps + c) (24 * c)
 | 0 => Sr P i 0 _ fun ss c h => by
   cases h with
   | nil=>exact fun S=>Sta.refl S _
 | k + 1 => Sr P i (k + 1) _ fun ss c h S => by
   cases h with
   | mk _ _ c hl h =>
     exact Gk (c:=c) (fun j hj S=>by
      rw [List.getD_eq_getElem?_getD,List.getElem?_eq_getElem hj]
      exact HF P i k ss[j] (c j) (h j hj) S) S ss.length (Nat.le_refl _)
theorem Ma {f:Ex→Nat→Cd→Cd} (hf:∀ x r S,(f x r S).backs=S.backs) (xs:List Ex) (last:Int) (S:Cd):∀ j,(Fz f xs last S j).2.backs=S.backs
 | 0=>rfl
 | j + 1 => by
   have ih:=Ma hf xs last S j;simp only [Fz];split
   ·exact ih
   split
   ·exact (hf _ _ _).trans ih
   ·exact (hf _ _ _).trans ih
theorem LQ (first:Nat) (S:Cd) (sv:List Nat):∀ k,(QN first S sv k).backs=S.backs
 | 0=>rfl
 | k + 1=>LQ first S sv k
theorem Mz {f:Ex→Nat→Cd→Cd} (hf:∀ x r S,(f x r S).backs=S.backs) (xs:List Ex) (S:Cd):∀ j,(Lj f xs S j).backs=S.backs
 | 0=>rfl
 | j + 1 => by
   have ih:=Mz hf xs S j;simp only [Lj];split
   ·exact (hf _ _ _).trans ih
   ·exact ih
theorem Mh {f:Ex→Nat→Cd→Cd} (hf:∀ x r S,(f x r S).backs=S.backs) (xs:List Ex) (S:Cd):(NO f xs S).backs=S.backs :=
 (Mz hf xs _ _).trans ((LQ _ _ _ _).trans (Ma hf xs _ S _))
theorem LJ {f:Ex→Nat→Cd→Cd} (hf:∀ x r S,(f x r S).backs=S.backs) (xs:List Ex) (S:Cd):∀ j,(GM f xs S j).backs=S.backs
 | 0=>rfl
 | j + 1=>(hf _ _ _).trans (LJ hf xs S j)
theorem M1 (first:Nat) (S:Cd):∀ j,(caB first S j).backs=S.backs
 | 0=>rfl
 | j + 1=>M1 first S j
theorem Ts (S:Cd) (first m n reg:Nat):(caF S first m n reg).backs=S.backs:=by
 show (caD _ reg).backs=_;unfold caD;split <;> exact M1 first _ m
theorem CF:∀ (k:Nat) (x:Ex) (r:Nat) (S:Cd),(AO k x r S).backs=S.backs
 | 0,_,_,_=>rfl
 | k + 1, .mk op n as, r, S => by
   have hO:=Mh (CF k) as S;simp only [AO];split
   ·rw [DL];exact hO
   split
   ·exact Mr S r n
   split
   ·rw [DL]
   split
   ·split
    ·rw [DL]
    ·rw [DL,Ia];exact hO
   split
   ·exact (Ts _ _ _ _ _).trans (LJ (CF k) as S _)
   ·simp only [DL,Ia];exact hO
theorem Aos (S:Cd) (a:Nat):(Ga S a).P=S.P:=rfl
theorem ZC (S:Cd) (a:Nat):(Ga S a).base=S.base:=rfl
theorem Aic (S:Cd) (a:Nat):(Ga S a).fn=S.fn:=rfl
theorem QE (S:Cd) (a:Nat):(Ga S a).frames=S.frames:=rfl
theorem Ot (S:Cd) (a:Nat):(Ga S a).entries=S.entries:=rfl
theorem Tj (S:Cd) (a:Nat):(Ga S a).calls=S.calls:=rfl
theorem Abw (S:Cd) (a:Nat):(Ga S a).bad=S.bad:=rfl
theorem TE (S:Cd) (a:Nat):(Ga S a).steps=S.steps:=rfl
theorem Un (S:Cd) (a:Nat):(Ga S a).backs=S.backs:=rfl
theorem UR (S:Cd) (a:Nat):(Ga S a).temps=S.temps:=rfl
theorem VB (S:Cd) (a:Nat):(Ga S a).most=S.most:=rfl
theorem Jm (S:Cd) (a:Nat):(Ga S a).words.length=S.words.length:=Hl S a _
def LHe:=(De @Aos @ZC @Aic @QE @Ot @Tj @Abw @TE @Un @UR @VB @Jm)
theorem Apm (S:Cd):(KY S).P=S.P:=rfl
theorem Yk (S:Cd):(KY S).base=S.base:=rfl
theorem Alc (S:Cd):(KY S).fn=S.fn:=rfl
theorem Qx (S:Cd):(KY S).frames=S.frames:=rfl
theorem P2 (S:Cd):(KY S).entries=S.entries:=rfl
theorem Ua (S:Cd):(KY S).calls=S.calls:=rfl
theorem Abq (S:Cd):(KY S).bad=S.bad:=rfl
theorem UC (S:Cd):(KY S).steps=S.steps:=rfl
theorem Ug (S:Cd):(KY S).temps=S.temps:=rfl
theorem Wp (S:Cd):(KY S).most=S.most:=rfl
theorem UU (S:Cd):(KY S).backs=S.backs ++ [S.words.length]:=rfl
theorem M0 (S:Cd):(KY S).words=(A5 S 29 0 0 0 0 0).words:=rfl
def LBk:=(De @Apm @Yk @Alc @Qx @P2 @Ua @Abq @UC @UU @Ug @Wp @M0)
def Cq (K:Nat) (S T:Cd):Prop:=∀ p ∈ T.calls,p ∈ S.calls ∨ p.2 < K
theorem Cq.eq {K:Nat} {S T:Cd} (h:T.calls=S.calls):Cq K S T:=fun p hp=>.inl (h ▸ hp)
theorem Cq.trans {K:Nat} {S T U:Cd} (h:Cq K S T) (g:Cq K T U):Cq K S U:=fun p hp=>(g p hp).elim (h p) .inr
theorem YT {K:Nat} {f:Ex→Nat→Cd→Cd} {xs:List Ex} (hf:∀ j,j < xs.length→∀ r S,Cq K S (f (xs.getD j Ch) r S)) (last:Int) (S:Cd):∀ j,j≤xs.length→Cq K S (Fz f xs last S j).2
 | 0,_=>.eq rfl
 | j + 1, h => by
   have ih:=YT hf last S j Aa;simp only [Fz];split
   ·exact ih
   split
   ·exact ih.trans (hf j Aa _ _)
   ·exact (ih.trans (hf j Aa _ _)).trans (.eq rfl)
theorem YW {K:Nat} (first:Nat) (S:Cd) (sv:List Nat):∀ k,Cq K S (QN first S sv k)
 | 0=>.eq rfl
 | k + 1=>(YW first S sv k).trans (.eq rfl)
theorem Z1 {K:Nat} {f:Ex→Nat→Cd→Cd} {xs:List Ex} (hf:∀ j,j < xs.length→∀ r S,Cq K S (f (xs.getD j Ch) r S)) (S:Cd):∀ j,j≤xs.length→Cq K S (Lj f xs S j)
 | 0,_=>.eq rfl
 | j + 1, h => by
   have ih:=Z1 hf S j Aa;simp only [Lj];split
   ·exact ih.trans (hf j Aa _ _)
   ·exact ih
theorem YM {K:Nat} {f:Ex→Nat→Cd→Cd} {xs:List Ex} (hf:∀ j,j < xs.length→∀ r S,Cq K S (f (xs.getD j Ch) r S)) (S:Cd):Cq K S (NO f xs S) :=
 (((YT hf _ S _ (Nat.le_refl _)).trans (YW _ _ _ _)).trans (Z1 hf _ _ (Nat.le_refl _))).trans (.eq rfl)
theorem Ys {K:Nat} {f:Ex→Nat→Cd→Cd} {xs:List Ex} (hf:∀ j,j < xs.length→∀ r S,Cq K S (f (xs.getD j Ch) r S)) (S:Cd):∀ j,j≤xs.length→Cq K S (GM f xs S j)
 | 0,_=>.eq rfl
 | j + 1,h=>((Ys hf S j Aa).trans (hf j Aa _ _)).trans (.eq rfl)
theorem L8 (first:Nat) (S:Cd):∀ j,(caB first S j).calls=S.calls
 | 0=>rfl
 | j + 1=>L8 first S j
theorem Alg {K:Nat} (S:Cd) (first m n reg:Nat) (hn:n < K):Cq K S (caF S first m n reg):=by
 have e:(caF S first m n reg).calls=S.calls ++ [((A5 (caB first (A5 (A5 S 26 11 0 0 0 0) 1 10 14 11 0 0) m) 1 14 10 12 0 0).words.length,n)]:=by
  show (caD _ reg).calls=_;have:∀ T:Cd,(caD T reg).calls=T.calls:=fun T=>by unfold caD;split <;> rfl
  rw [this];show (caB first _ m).calls ++ _=_;rw [L8];rfl
 intro p hp;rw [e] at hp;rcases List.mem_append.1 hp with hp | hp
 ·exact .inl hp
 ·simp at hp;subst hp;exact .inr hn
theorem GK (P:List Fu) (i:Nat):∀ (k:Nat) (x:Ex) (c:Nat),RE P i k x c→∀ r S,Cq P.length S (AO k x r S)
 | 0,_,_,h,_,_=>by cases h
 | k + 1, .mk op n as, _, .mk _ _ _ _ c hn hl ha, r, S => by
   have hf:∀ j,j < as.length→∀ r S,Cq P.length S (AO k (as.getD j Ch) r S):=fun j hj=>by
    rw [List.getD_eq_getElem?_getD,List.getElem?_eq_getElem hj];exact GK P i k as[j] (c j) (ha j hj)
   have hO:=YM hf S;simp only [AO];split
   ·exact hO.trans (.eq (By ..))
   split
   ·exact .eq (Mn S r n)
   split
   ·exact .eq (By ..)
   split
   ·split
    ·exact .eq (By ..)
    ·exact hO.trans (.eq (by rw [By,G4]))
   split
   ·rename_i h29;cases hn with
    | call n as h1 h2 h3=>exact ((Ys hf S _ (Nat.le_refl _)).trans (.eq rfl)).trans (Alg _ _ _ _ _ h2)
    | ar op n as h1 h2 h3=>omega
    | con n=>exact absurd h29 Ab
    | loc n h1 h2=>exact absurd h29 Ab
    | load n a=>exact absurd h29 Ab
    | hash n a b=>exact absurd h29 Ab
    | pre n a b=>exact absurd h29 Ab
   ·exact hO.trans (.eq (by simp only [By,G4]))
theorem Qc {K:Nat} {f:IrSt→Cd→Cd} {ss:List IrSt} (hf:∀ j,j < ss.length→∀ S,Cq K S (f (ss.getD j PD) S)) (S:Cd):∀ j,j≤ss.length→Cq K S (Ll f ss S j)
 | 0,_=>.eq rfl
 | j + 1,h=>(Qc hf S j Aa).trans (hf j Aa _)
theorem Wk (P:List Fu) (i l:Nat) (bl:List IrSt→Cd→Cd) (hbl:∀ ss c,RB P i l ss c→∀ S,Cq P.length S (bl ss S)):∀ (s:IrSt) (c:Nat),RgS P i l s c→∀ S,Cq P.length S (KQ bl s S):=by
 intro s c h S;cases h with
 | set _ n a b bo el ca h0 h1 ha =>
   simp only [KQ,if_true];exact (GK P i 8 a ca ha 0 S).trans (.eq (By ..))
 | store _ n a b bo el ca cb ha hb =>
   simp only [KQ,show ((2:Int)=1)=False by decide,Dh];have hf:∀ j,j < [a,b].length→∀ r S,Cq P.length S (AO 8 ([a,b].getD j Ch) r S):=fun j hj=>by
    have hj2:j=0 ∨ j=1:=by have:j < 2:=hj;omega
    rcases hj2 with rfl | rfl
    ·exact GK P i 8 a ca ha
    ·exact GK P i 8 b cb hb
   exact (YM hf S).trans (.eq (by rw [By,G4]))
 | branch _ n a b bo el ca cb ce ha hb he =>
   simp only [KQ,show ((3:Int)=1)=False by decide,show ((3:Int)=2)=False by decide,Dh];have k1:=((GK P i 8 a ca ha 0 S).trans (.eq (By _ 30 0 0 0 0 0))).trans (hbl bo cb hb _);have k2:Cq P.length _ (Ga (A5 (bl bo (A5 (AO 8 a 0 S) 30 0 0 0 0 0)) 29 0 0 0 0 0) (AO 8 a 0 S).words.length):=k1.trans (.eq rfl);exact (k2.trans (hbl el ce he _)).trans (.eq rfl)
 | loop _ n a b bo el ca cb ha hb =>
   simp only [KQ,show ((4:Int)=1)=False by decide,show ((4:Int)=2)=False by decide,show ((4:Int)=3)=False by decide,Dh];have k1:=((GK P i 8 a ca ha 0 S).trans (.eq (By _ 30 0 0 0 0 0))).trans (hbl bo cb hb _);exact k1.trans (.eq rfl)
 | other _ k n a b bo el ca h5 h7 ha =>
   have h:=GK P i 8 a ca ha 0 S;simp only [KQ];rw [if_neg Aa,if_neg Aa,if_neg Aa,if_neg Aa];split
   ·exact h.trans (.eq rfl)
   split
   ·exact h
   ·exact h.trans (.eq (By ..))
theorem W2 (P:List Fu) (i:Nat):∀ (k:Nat) (s:IrSt) (c:Nat),RgS P i k s c→∀ S,Cq P.length S (P6 k s S)
 | 0=>Wk P i 0 _ fun ss c h S=>.eq rfl
 | k + 1 => Wk P i (k + 1) _ fun ss c h S => by
   cases h with
   | mk _ _ c hl h =>
     exact Qc (fun j hj S=>by
      rw [List.getD_eq_getElem?_getD,List.getElem?_eq_getElem hj]
      exact W2 P i k ss[j] (c j) (h j hj) S) S ss.length (Nat.le_refl _)
structure WFw (S:Cd):Prop where
 bl:S.bad.length≤S.words.length
 cl:S.calls.length≤S.words.length
 ck:∀ p ∈ S.calls,p.1 < S.words.length
 bk:∀ p ∈ S.bad,p < S.words.length
 cs:S.calls.Pairwise fun p q=>p.1 < q.1
theorem WFc.wd {S:Cd} (h:WFc S):WFw S:=⟨h.bl,h.cl,h.ck,h.bk,h.cs⟩
def Dt (S:Cd) (i:Nat):Cd:={ S with fn:=i,temps:=0,most:=0,backs:=[],steps:=[],entries:=S.entries ++ [S.words.length] }
def GA (S:Cd) (p:Nat):Nat→Cd
 | 0=>S
 | j + 1=>A5 (GA S p j) 28 0 14 12 0 ((p + j:Nat):Int)
def G1 (S:Cd) (l:List Nat):Nat→Cd
 | 0=>S
 | j + 1=>Ga (G1 S l j) (l.getD j 0)
def Fw (S:Cd) (n:Nat) (l:List Nat):Nat→Cd
 | 0=>S
 | j + 1=>Ei (Fw S n l j) (l.getD j 0) n
def BZ (S:Cd) (i:Nat) (lc:Int):Cd:=if i=0 then A5 S 0 0 0 0 0 0 else A5 (A5 S 27 15 14 0 0 lc) 33 0 15 0 0 0
def FA (S:Cd) (n:Nat):Cd:={ S with frames:=S.frames ++ [n] }
def IT (S:Cd) (i pc lc:Nat) (body:List IrSt):Cd:=A5 (Ll (P6 15) body (GA (A5 (Dt S i) 28 0 14 15 0 lc) pc (lc - pc)) body.length) 26 0 0 0 0 0
def GB (S:Cd) (i pc lc:Nat) (body:List IrSt):Cd:=BZ (G1 (IT S i pc lc body) (IT S i pc lc body).backs (IT S i pc lc body).backs.length) i lc
def IY (S:Cd) (i pc lc:Nat) (body:List IrSt):Cd :=
 Fw (FA (GB S i pc lc body) (lc + 1 + (GB S i pc lc body).most)) (lc + 1 + (GB S i pc lc body).most) (GB S i pc lc body).steps (GB S i pc lc body).steps.length
theorem Nj (S:Cd) (p:Nat):∀ j,Sta S (GA S p j) 0 0 j
 | 0=>Sta.refl S 0
 | j + 1=>(Nj S p j).trans (Sta.em _ _ _ _ _ _ _) 0 Aa Aa
theorem Rq (S:Cd) (p:Nat):∀ j,(GA S p j).P=S.P∧(GA S p j).base=S.base∧(GA S p j).fn=S.fn∧(GA S p j).frames=S.frames∧(GA S p j).entries=S.entries∧(GA S p j).calls=S.calls∧(GA S p j).bad=S.bad∧(GA S p j).steps=S.steps∧(GA S p j).backs=S.backs∧(GA S p j).temps=S.temps∧(GA S p j).most=S.most∧(GA S p j).words.length=S.words.length + j
 | 0=>⟨rfl,rfl,rfl,rfl,rfl,rfl,rfl,rfl,rfl,rfl,rfl,rfl⟩
 | j + 1 => by
   have h:=Rq S p j;refine ⟨h.1,h.2.1,h.2.2.1,h.2.2.2.1,h.2.2.2.2.1,h.2.2.2.2.2.1,h.2.2.2.2.2.2.1,h.2.2.2.2.2.2.2.1,h.2.2.2.2.2.2.2.2.1,h.2.2.2.2.2.2.2.2.2.1,h.2.2.2.2.2.2.2.2.2.2.1,?_⟩;show (A5 (GA S p j) 28 0 14 12 0 _).words.length=_;rw [Aj,h.2.2.2.2.2.2.2.2.2.2.2];omega
theorem RU (S:Cd) (l:List Nat):∀ j,Sta S (G1 S l j) 0 0 0
 | 0=>Sta.refl S 0
 | j + 1=>(RU S l j).trans (Sta.he _ _) 0 Aa Aa
theorem RA (S:Cd) (n:Nat) (l:List Nat):∀ j,Sta S (Fw S n l j) 0 0 0
 | 0=>Sta.refl S 0
 | j + 1=>(RA S n l j).trans (Sta.pt _ _ _) 0 Aa Aa
theorem Fq (S:Cd) (n:Nat) (l:List Nat):∀ j,(Fw S n l j).P=S.P∧(Fw S n l j).base=S.base∧(Fw S n l j).fn=S.fn∧(Fw S n l j).frames=S.frames∧(Fw S n l j).entries=S.entries∧(Fw S n l j).calls=S.calls∧(Fw S n l j).bad=S.bad∧(Fw S n l j).steps=S.steps∧(Fw S n l j).backs=S.backs∧(Fw S n l j).temps=S.temps∧(Fw S n l j).most=S.most∧(Fw S n l j).words.length=S.words.length
 | 0=>⟨rfl,rfl,rfl,rfl,rfl,rfl,rfl,rfl,rfl,rfl,rfl,rfl⟩
 | j + 1 => by
   have h:=Fq S n l j;refine ⟨h.1,h.2.1,h.2.2.1,h.2.2.2.1,h.2.2.2.2.1,h.2.2.2.2.2.1,h.2.2.2.2.2.2.1,h.2.2.2.2.2.2.2.1,h.2.2.2.2.2.2.2.2.1,h.2.2.2.2.2.2.2.2.2.1,h.2.2.2.2.2.2.2.2.2.2.1,?_⟩;show (Ei (Fw S n l j) (l.getD j 0) n).words.length=_;rw [Hl];exact h.2.2.2.2.2.2.2.2.2.2.2
theorem Ka (S:Cd) (l:List Nat):∀ j,(G1 S l j).P=S.P∧(G1 S l j).base=S.base∧(G1 S l j).fn=S.fn∧(G1 S l j).frames=S.frames∧(G1 S l j).entries=S.entries∧(G1 S l j).calls=S.calls∧(G1 S l j).bad=S.bad∧(G1 S l j).steps=S.steps∧(G1 S l j).backs=S.backs∧(G1 S l j).temps=S.temps∧(G1 S l j).most=S.most∧(G1 S l j).words.length=S.words.length
 | 0=>⟨rfl,rfl,rfl,rfl,rfl,rfl,rfl,rfl,rfl,rfl,rfl,rfl⟩
 | j + 1 => by
   have h:=Ka S l j;refine ⟨h.1,h.2.1,h.2.2.1,h.2.2.2.1,h.2.2.2.2.1,h.2.2.2.2.2.1,h.2.2.2.2.2.2.1,h.2.2.2.2.2.2.2.1,h.2.2.2.2.2.2.2.2.1,h.2.2.2.2.2.2.2.2.2.1,h.2.2.2.2.2.2.2.2.2.2.1,?_⟩;show (Ga (G1 S l j) (l.getD j 0)).words.length=_;rw [Jm];exact h.2.2.2.2.2.2.2.2.2.2.2
theorem FH {S:Cd} (h:WFw S) (i:Nat):WFc (Dt S i):=⟨h.bl,Nat.zero_le _,Nat.zero_le _,h.cl,h.ck,h.bk,fun p hp=>Q4,fun p hp=>Q4,h.cs⟩
theorem W5 (S:Cd) (i:Nat) (lc:Int):Sta S (BZ S i lc) 0 0 2:=by
 unfold BZ;split
 ·exact (Sta.em _ _ _ _ _ _ _).mono Aa Aa
 ·exact (Sta.em _ _ _ _ _ _ _).trans (Sta.em _ _ _ _ _ _ _) 0 Aa Aa
theorem Yi (P:List Fu) (i:Nat) (body:List IrSt) (c:Nat) (hb:RB P i 16 body c) (T:Cd) (ht:T.temps=0):Sta T (Ll (P6 15) body T body.length) 0 c (24 * c):=by
 cases hb with
 | mk _ _ c hlen h =>
 have h2:=Gk (c:=c) (fun j hj S=>by
  rw [List.getD_eq_getElem?_getD,List.getElem?_eq_getElem hj]
  exact HF P i 15 body[j] (c j) (h j hj) S) T body.length (Nat.le_refl _)
 have es:((List.range body.length).map c).sum=Be c body.length:=rfl;rw [es];exact h2.mono Aa (Nat.le_refl _)
theorem Sl (P:List Fu) (S:Cd) (i pc lc:Nat) (body:List IrSt) (c:Nat) (hb:RB P i 16 body c) (hl:lc≤24):Sta (Dt S i) (IT S i pc lc body) 0 c (24 * c + 26):=by
 cases hb with
 | mk _ _ c hlen h =>
 have h1:=(Sta.em (Dt S i) 28 0 14 15 0 lc).trans (Nj _ pc (lc - pc)) 0 Aa Aa;have t1:=h1.temps;have e:(Dt S i).temps=0:=rfl
 have h2:=Gk (c:=c) (fun j hj S=>by
  rw [List.getD_eq_getElem?_getD,List.getElem?_eq_getElem hj]
  exact HF P i 15 body[j] (c j) (h j hj) S) (GA (A5 (Dt S i) 28 0 14 15 0 lc) pc (lc - pc)) body.length (Nat.le_refl _)
 have es:((List.range body.length).map c).sum=Be c body.length:=rfl;rw [es];exact ((h1.trans h2 (Be c body.length) Aa (by rw [t1,e];omega)).trans (Sta.em _ 26 0 0 0 0 0) (Be c body.length) Aa Aa).mono (Nat.le_refl _) Aa
theorem Nv (P:List Fu) (S:Cd) (i pc lc:Nat) (body:List IrSt) (c:Nat) (hb:RB P i 16 body c) (hl:lc≤24):Sta (Dt S i) (GB S i pc lc body) 0 c (24 * c + 28) :=
 (((Sl P S i pc lc body c hb hl).trans (RU _ _ _) c Aa Aa).trans (W5 _ i lc) c Aa Aa).mono (Nat.le_refl _) Aa
theorem Af5 (P:List Fu) (S:Cd) (i pc lc:Nat) (body:List IrSt) (c:Nat) (hb:RB P i 16 body c):Cq P.length S (IY S i pc lc body):=by
 have h1:(IY S i pc lc body).calls=(GB S i pc lc body).calls:=(Fq _ _ _ _).2.2.2.2.2.1;have h2:(GB S i pc lc body).calls=(IT S i pc lc body).calls:=by
  have:∀ T:Cd,(BZ T i lc).calls=T.calls:=fun T=>by unfold BZ;split <;> rfl
  exact (this _).trans (Ka _ _ _).2.2.2.2.2.1
 have h3:Cq P.length (GA (A5 (Dt S i) 28 0 14 15 0 lc) pc (lc - pc)) (Ll (P6 15) body (GA (A5 (Dt S i) 28 0 14 15 0 lc) pc (lc - pc)) body.length):=by
  cases hb with
  | mk _ _ c hl h =>
    exact Qc (fun j hj S=>by
     rw [List.getD_eq_getElem?_getD,List.getElem?_eq_getElem hj]
     exact W2 P i 15 body[j] (c j) (h j hj) S) _ body.length (Nat.le_refl _)
 have h4:(GA (A5 (Dt S i) 28 0 14 15 0 lc) pc (lc - pc)).calls=S.calls:=(Rq _ _ _).2.2.2.2.2.1;have h5:Cq P.length S (IT S i pc lc body):=((Cq.eq h4).trans h3).trans (.eq rfl);exact h5.trans (.eq (h1.trans h2))
theorem Alf (P:List Fu) (S:Cd) (i pc lc:Nat) (body:List IrSt) (c:Nat) (hb:RB P i 16 body c) (hl:lc≤24) (hw:WFw S) :
 (IY S i pc lc body).P=S.P∧(IY S i pc lc body).base=S.base∧(IY S i pc lc body).frames=S.frames ++ [lc + 1 + (GB S i pc lc body).most]∧(IY S i pc lc body).entries=S.entries ++ [S.words.length] ∧
  (IY S i pc lc body).words.length≤S.words.length + 24 * c + 28∧S.words.length≤(IY S i pc lc body).words.length∧WFw (IY S i pc lc body):=by
 have h:=Nv P S i pc lc body c hb hl;have hq:=Fq (FA (GB S i pc lc body) (lc + 1 + (GB S i pc lc body).most)) (lc + 1 + (GB S i pc lc body).most) (GB S i pc lc body).steps (GB S i pc lc body).steps.length;have hs:=RA (FA (GB S i pc lc body) (lc + 1 + (GB S i pc lc body).most)) (lc + 1 + (GB S i pc lc body).most) (GB S i pc lc body).steps (GB S i pc lc body).steps.length;have hg:=h.wf (FH hw i);have h4:(FA (GB S i pc lc body) (lc + 1 + (GB S i pc lc body).most)).words.length=(GB S i pc lc body).words.length:=rfl;refine ⟨hq.1.trans h.P,hq.2.1.trans h.base,?_,hq.2.2.2.2.1.trans h.entries,?_,?_,?_⟩
 ·refine hq.2.2.2.1.trans ?_;show (GB S i pc lc body).frames ++ _=_;rw [h.frames];rfl
 ·have:=hq.2.2.2.2.2.2.2.2.2.2.2;have h3:=h.words;have e:(Dt S i).words.length=S.words.length:=rfl;show (Fw _ _ _ _).words.length≤_;omega
 ·have:=hq.2.2.2.2.2.2.2.2.2.2.2;have h3:=h.grow;have e:(Dt S i).words.length=S.words.length:=rfl;show _≤(Fw _ _ _ _).words.length;omega
 ·exact (hs.wf ⟨hg.bl,hg.sl,hg.kll,hg.cl,hg.ck,hg.bk,hg.sk,hg.kk,hg.cs⟩).wd
theorem Aoi (S:Cd) (n:Nat):(FA S n).P=S.P:=rfl
theorem Zd (S:Cd) (n:Nat):(FA S n).base=S.base:=rfl
theorem Ag7 (S:Cd) (n:Nat):(FA S n).fn=S.fn:=rfl
theorem Pd (S:Cd) (n:Nat):(FA S n).entries=S.entries:=rfl
theorem TI (S:Cd) (n:Nat):(FA S n).calls=S.calls:=rfl
theorem Aat (S:Cd) (n:Nat):(FA S n).bad=S.bad:=rfl
theorem TZ (S:Cd) (n:Nat):(FA S n).steps=S.steps:=rfl
theorem UT (S:Cd) (n:Nat):(FA S n).backs=S.backs:=rfl
theorem TS (S:Cd) (n:Nat):(FA S n).temps=S.temps:=rfl
theorem VD (S:Cd) (n:Nat):(FA S n).most=S.most:=rfl
theorem QK (S:Cd) (n:Nat):(FA S n).frames=S.frames ++ [n]:=rfl
theorem TX (S:Cd) (n:Nat):(FA S n).words=S.words:=rfl
def LFr:=(De @Aoi @Zd @Ag7 @QK @Pd @TI @Aat @TZ @UT @TS @VD @TX)
end Mv
