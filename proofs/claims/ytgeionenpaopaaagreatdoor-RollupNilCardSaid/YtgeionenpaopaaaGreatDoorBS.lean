/- A part. -/
import Derived.Test.YtgeionenpaopaaaGreatDoorBF
import Derived.Test.YtgeionenpaopaaaGreatDoorBR
set_option linter.all false
set_option maxRecDepth 20000
set_option maxHeartbeats 16000000
namespace Mv
open Go
def wK (n:BitVec 64):Nat:=if n.toNat < 2147483648 then 1 else 7
theorem Au9 (S:Cd) (r:Nat) (n:BitVec 64):Sta S (H4 S r n) 0 0 (wK n):=by
 unfold wK;split
 ·rename_i h;have e:n.toInt=Bl n:=by
   unfold Bl;rw [BitVec.toInt_eq_toNat_cond,BitVec.toInt_eq_toNat_cond,BitVec.toNat_setWidth,Nat.mod_eq_of_lt Aa,if_pos Aa,if_pos Aa]
  unfold H4;rw [if_pos e];exact Sta.em S _ _ _ _ _ _
 ·exact Sta.cn S r n
def wA' (f:Ex→Nat) (xs:List Ex):Nat→Nat
 | 0=>0
 | j + 1=>wA' f xs j + if Jl (xs.getD j Ch) then 0 else f (xs.getD j Ch) + 1
def nA' (xs:List Ex):Nat→Nat
 | 0=>0
 | j + 1=>nA' xs j + if Jl (xs.getD j Ch) then 0 else 1
def wC' (f:Ex→Nat) (xs:List Ex):Nat→Nat
 | 0=>0
 | j + 1=>wC' f xs j + if Jl (xs.getD j Ch) then f (xs.getD j Ch) else 0
def wL' (f:Ex→Nat) (xs:List Ex):Nat→Nat
 | 0=>0
 | j + 1=>wL' f xs j + (f (xs.getD j Ch) + if Jl (xs.getD j Ch) then 0 else 2)
theorem Azv (f:Ex→Nat) (xs:List Ex):∀ j,wA' f xs j + nA' xs j + wC' f xs j=wL' f xs j
 | 0=>rfl
 | j + 1 => by
   have:=Azv f xs j;simp only [wA',nA',wC',wL'];split <;> omega
def tL' (t:Ex→Nat) (xs:List Ex):Nat→Nat
 | 0=>0
 | j + 1=>max (tL' t xs j) (if Jl (xs.getD j Ch) then 0 else j + 1 + t (xs.getD j Ch))
def tC' (t:Ex→Nat) (xs:List Ex):Nat→Nat
 | 0=>0
 | j + 1=>max (tC' t xs j) (j + 1 + t (xs.getD j Ch))
def wD' (f:Ex→Nat) (xs:List Ex):Nat→Nat
 | 0=>0
 | j + 1=>wD' f xs j + (f (xs.getD j Ch) + 1)
structure FSz (f:Ex→Nat→Cd→Cd) (w t:Ex→Nat):Prop where
 all:∀ x r S,Sta S (f x r S) 0 (S.temps + t x) (w x)
 leaf:∀ x,Jl x=true→∀ r S,Sta S (f x r S) 0 0 (w x)
theorem Ave {f:Ex→Nat→Cd→Cd} {w t:Ex→Nat} (h:FSz f w t) (xs:List Ex) (last:Int) (S:Cd):∀ j,
 Sta S (Fz f xs last S j).2 (Fz f xs last S j).1.length (S.temps + tL' t xs j) (wA' w xs j)∧(Fz f xs last S j).1.length≤j∧(Fz f xs last S j).1.length≤nA' xs j
 | 0=>⟨(Sta.refl S _).mono (Nat.le_refl _) (Nat.le_refl _),Nat.le_refl _,Nat.le_refl _⟩
 | j + 1 => by
   obtain ⟨h1,h2,h3⟩:=Ave h xs last S j;simp only [Fz,tL',wA',nA'];split
   ·rename_i hl;exact ⟨h1.mono Aa Aa,by omega,by omega⟩
   ·rename_i hl;have g:=h.all (xs.getD j Ch) (1 + j) (Fz f xs last S j).2;have ht:=h1.temps;have g1:=h1.trans g (S.temps + max (tL' t xs j) (j + 1 + t (xs.getD j Ch))) Aa (by rw [ht];omega);split
    ·refine ⟨g1.mono (Nat.le_refl _) Aa,by show (Fz f xs last S j).1.length≤_;omega,by show (Fz f xs last S j).1.length≤_;omega⟩
    ·have g2:=g1.trans (Sta.sv _ (1 + j)) (S.temps + max (tL' t xs j) (j + 1 + t (xs.getD j Ch))) (Nat.le_refl _) (by rw [g1.temps];omega);refine ⟨?_,by rw [Ew];omega,by rw [Ew];omega⟩;rw [Ew];exact g2.mono (Nat.le_refl _) Aa
theorem Au6 {f:Ex→Nat→Cd→Cd} {w t:Ex→Nat} (h:FSz f w t) (xs:List Ex) (S:Cd):Sta S (NO f xs S) 0 (S.temps + tL' t xs xs.length) (wL' w xs xs.length):=by
 obtain ⟨h1,h2,h3⟩:=Ave h xs (D3 xs xs.length) S xs.length;have hw:=Azv w xs xs.length;have hC:∀ (T:Cd) j,Sta T (Lj f xs T j) 0 0 (wC' w xs j):=fun T j=>by
  induction j with
  | zero=>exact Sta.refl T _
  | succ j ih =>
    simp only [Lj,wC'];split
    ·rename_i hq;exact (ih.trans (h.leaf _ hq (1 + j) _) 0 Aa Aa).mono (Nat.le_refl _) Aa
    ·exact ih.mono (Nat.le_refl _) Aa
 have g:=(h1.trans (Nt S.temps _ (Fz f xs (D3 xs xs.length) S xs.length).1 (Fz f xs (D3 xs xs.length) S xs.length).1.length) (S.temps + tL' t xs xs.length) (Nat.le_refl _) Aa).trans (hC _ xs.length) (S.temps + tL' t xs xs.length) (Nat.le_refl _) Aa;exact g.tp.mono (Nat.le_refl _) Aa
theorem Aut {f:Ex→Nat→Cd→Cd} {w t:Ex→Nat} (h:FSz f w t) (xs:List Ex) (S:Cd):∀ j,Sta S (GM f xs S j) j (S.temps + tC' t xs j) (wD' w xs j)
 | 0=>Sta.refl S _
 | j + 1 => by
   have h1:=Aut h xs S j;simp only [GM,tC',wD'];have g1:=h1.trans (h.all (xs.getD j Ch) 0 (GM f xs S j)) (S.temps + max (tC' t xs j) (j + 1 + t (xs.getD j Ch))) Aa (by rw [h1.temps];omega);have g2:=g1.trans (Sta.sv _ 0) (S.temps + max (tC' t xs j) (j + 1 + t (xs.getD j Ch))) (Nat.le_refl _) (by rw [g1.temps];omega);exact g2.mono (Nat.le_refl _) Aa
def wE:Nat→Ex→Nat
 | 0,_=>0
 | k + 1, .mk op n as =>
   if op≤25 then wL' (wE k) as as.length + 1
   else if op=26 then wK n
   else if op=27 then 1
   else if op=28 then wL' (wE k) as as.length + 4
   else if op=29 then wD' (wE k) as as.length + (7 + 2 * as.length)
   else wL' (wE k) as as.length + 11
def tE:Nat→Ex→Nat
 | 0,_=>0
 | k + 1,.mk op _ as=>if op=26 then 0 else if op=27 then 0 else if op=29 then tC' (tE k) as as.length else tL' (tE k) as as.length
theorem As2:∀ k,FSz (AO k) (wE k) (tE k)
 | 0=>⟨fun _ _ S=>Sta.refl S _,fun _ _ _ S=>Sta.refl S _⟩
 | k + 1 => by
   have ih:=As2 k;refine ⟨fun x r S=>?_,fun x hx r S=>?_⟩
   ·obtain ⟨op,n,as⟩:=x;have hO:=Au6 ih as S;simp only [AO,wE,tE];split
    ·rename_i h;rw [if_neg Aa,if_neg Aa,if_neg Aa];exact (hO.trans (Sta.em _ _ _ _ _ _ _) _ (Nat.le_refl _) Aa).mono Aa Aa
    split
    ·exact (Au9 S r n).mono Aa Aa
    split
    ·exact (Sta.em S _ _ _ _ _ _).mono Aa Aa
    split
    ·rename_i h;rw [if_neg (show ¬ op=29 by omega)];split
     ·exact (Sta.em S _ _ _ _ _ _).mono Aa Aa
     ·exact ((hO.trans (Sta.bd _ _ _) _ (Nat.le_refl _) Aa).trans (Sta.em _ _ _ _ _ _ _) _ (Nat.le_refl _) Aa).mono Aa Aa
    split
    ·have h1:=Aut ih as S as.length;exact (h1.tp.trans (RG _ S.temps as.length n.toNat r) _ (Nat.le_refl _) Aa).mono Aa Aa
    ·have h1:=(hO.trans (Sta.bd _ 1 (if op=31 then 2045 else 2041)) _ (Nat.le_refl _) Aa).trans (Sta.bd _ 2 (if op=31 then 2041 else 2045)) _ (Nat.le_refl _) Aa;have t:=fun (T:Cd) op d a b c n=>Sta.em T op d a b c n;exact (((((h1.trans (t _ _ _ _ _ _ _) _ (Nat.le_refl _) Aa).trans (t _ _ _ _ _ _ _) _ (Nat.le_refl _) Aa).trans (t _ _ _ _ _ _ _) _ (Nat.le_refl _) Aa).trans (t _ _ _ _ _ _ _) _ (Nat.le_refl _) Aa).trans (t _ _ _ _ _ _ _) _ (Nat.le_refl _) Aa).mono Aa Aa
   ·obtain ⟨op,n,as⟩:=x;simp only [Jl,Ex.op,Bool.or_eq_true] at hx;replace hx:op=26 ∨ op=27:=hx.imp of_decide_eq_true of_decide_eq_true;rcases hx with rfl | rfl
    ·exact Au9 S r n
    ·exact Sta.em S _ _ _ _ _ _
def BSz (bl:List IrSt→Cd→Cd) (w t:List IrSt→Nat):Prop:=∀ ss S,Sta S (bl ss S) 0 (S.temps + t ss) (w ss)
def wSt (wb:List IrSt→Nat):IrSt→Nat
 | .mk kind _ a b body els =>
   if kind=1 then wE 8 a + 1
   else if kind=2 then wL' (wE 8) [a,b] 2 + 4
   else if kind=3 then wE 8 a + 2 + wb body + wb els
   else if kind=4 then wE 8 a + 2 + wb body
   else wE 8 a + 1
def tSt (tb:List IrSt→Nat):IrSt→Nat
 | .mk kind _ a b body els =>
   if kind=2 then tL' (tE 8) [a,b] 2
   else if kind=3 then max (tE 8 a) (max (tb body) (tb els))
   else if kind=4 then max (tE 8 a) (tb body)
   else tE 8 a
theorem Aup {bl:List IrSt→Cd→Cd} {wb tb:List IrSt→Nat} (h:BSz bl wb tb):∀ (s:IrSt) (S:Cd),Sta S (KQ bl s S) 0 (S.temps + tSt tb s) (wSt wb s)
 | .mk kind n a b body els, S => by
   have hE:=fun S=>(As2 8).all a 0 S;simp only [KQ,wSt,tSt];split
   ·rename_i h1;rw [if_neg Aa,if_neg Aa,if_neg Aa];exact ((hE S).trans (Sta.em _ _ _ _ _ _ _) _ (Nat.le_refl _) Aa).mono Aa Aa
   split
   ·exact (((Au6 (As2 8) [a,b] S).trans (Sta.bd _ 1 2048) _ (Nat.le_refl _) Aa).trans (Sta.em _ _ _ _ _ _ _) _ (Nat.le_refl _) Aa).mono (Nat.le_refl _) (by show wL' (wE 8) [a,b] 2 + 3 + 1≤_;omega)
   split
   ·have k1:=(hE S).trans (Sta.em _ 30 0 0 0 0 0) (S.temps + max (tE 8 a) (max (tb body) (tb els))) Aa Aa;have t1:=k1.temps;have k2:=k1.trans (h body _) (S.temps + max (tE 8 a) (max (tb body) (tb els))) Aa (by rw [t1];omega);have k3:=(k2.trans (Sta.em _ 29 0 0 0 0 0) (S.temps + max (tE 8 a) (max (tb body) (tb els))) Aa Aa).trans (Sta.he _ (AO 8 a 0 S).words.length) (S.temps + max (tE 8 a) (max (tb body) (tb els))) Aa Aa;have t3:=k3.temps;have k4:=(k3.trans (h els _) (S.temps + max (tE 8 a) (max (tb body) (tb els))) Aa (by rw [t3];omega)).trans (Sta.he _ (bl body (A5 (AO 8 a 0 S) 30 0 0 0 0 0)).words.length) (S.temps + max (tE 8 a) (max (tb body) (tb els))) Aa Aa;exact k4.mono (Nat.le_refl _) Aa
   split
   ·have k1:=(hE S).trans (Sta.em _ 30 0 0 0 0 0) (S.temps + max (tE 8 a) (tb body)) Aa Aa;have t1:=k1.temps;have k2:=k1.trans (h body _) (S.temps + max (tE 8 a) (tb body)) Aa (by rw [t1];omega);have k3:=(k2.trans (Sta.em _ 29 0 0 0 0 S.words.length) (S.temps + max (tE 8 a) (tb body)) Aa Aa).trans (Sta.he _ (AO 8 a 0 S).words.length) (S.temps + max (tE 8 a) (tb body)) Aa Aa;exact k3.mono (Nat.le_refl _) Aa
   split
   ·exact ((hE S).trans (Sta.bk _) _ (Nat.le_refl _) Aa).mono Aa Aa
   split
   ·exact (hE S).mono Aa Aa
   ·exact ((hE S).trans (Sta.em _ _ _ _ _ _ _) _ (Nat.le_refl _) Aa).mono Aa Aa
def wBl (w:IrSt→Nat) (ss:List IrSt):Nat→Nat
 | 0=>0
 | j + 1=>wBl w ss j + w (ss.getD j PD)
def tBl (t:IrSt→Nat) (ss:List IrSt):Nat→Nat
 | 0=>0
 | j + 1=>max (tBl t ss j) (t (ss.getD j PD))
theorem As3 {f:IrSt→Cd→Cd} {w t:IrSt→Nat} (hf:∀ s S,Sta S (f s S) 0 (S.temps + t s) (w s)) (ss:List IrSt) (S:Cd):∀ j,Sta S (Ll f ss S j) 0 (S.temps + tBl t ss j) (wBl w ss j)
 | 0=>Sta.refl S _
 | j + 1 => by
   have h1:=As3 hf ss S j;simp only [Ll,tBl,wBl];exact (h1.trans (hf _ _) (S.temps + max (tBl t ss j) (t (ss.getD j PD))) Aa (by rw [h1.temps];omega)).mono (Nat.le_refl _) (Nat.le_refl _)
def wS:Nat→IrSt→Nat
 | 0=>wSt fun _=>0
 | k + 1=>wSt fun ss=>wBl (wS k) ss ss.length
def tS:Nat→IrSt→Nat
 | 0=>tSt fun _=>0
 | k + 1=>tSt fun ss=>tBl (tS k) ss ss.length
theorem Ava:∀ k (s:IrSt) (S:Cd),Sta S (P6 k s S) 0 (S.temps + tS k s) (wS k s)
 | 0=>Aup fun _ S=>Sta.refl S _
 | k + 1=>Aup fun ss S=>As3 (Ava k) ss S ss.length
def wF (body:List IrSt):Nat:=wBl (wS 15) body body.length
def tF (body:List IrSt):Nat:=tBl (tS 15) body body.length
theorem Ayc (S:Cd) (i pc lc:Nat) (body:List IrSt):Sta (Dt S i) (GB S i pc lc body) 0 (tF body) (wF body + lc + 4):=by
 have h1:=(Sta.em (Dt S i) 28 0 14 15 0 lc).trans (Nj _ pc (lc - pc)) 0 Aa Aa;have t1:=h1.temps;have e:(Dt S i).temps=0:=rfl;have h2:=As3 (Ava 15) body (GA (A5 (Dt S i) 28 0 14 15 0 lc) pc (lc - pc)) body.length;have h3:=(h1.trans h2 (tF body) Aa (by rw [t1,e];show _≤tBl _ _ _;omega)).trans (Sta.em _ 26 0 0 0 0 0) (tF body) Aa Aa;have h4:=(h3.trans (RU _ (IT S i pc lc body).backs (IT S i pc lc body).backs.length) (tF body) Aa Aa).trans (W5 _ i lc) (tF body) Aa Aa;exact h4.mono (Nat.le_refl _) (by show 0 + 1 + (lc - pc) + wF body + 1 + 0 + 2≤_;omega)
def wP (P:List Fu):Nat→Nat
 | 0=>0
 | j + 1=>wP P j + (wF (P.getD j MG).body + (Bi P j).toNat + 4)
def frB (P:List Fu):List Nat:=(List.range P.length).map fun i=>(Bi P i).toNat + 1 + tF (P.getD i MG).body
theorem Awp (S:Cd) (i pc lc:Nat) (body:List IrSt):(IY S i pc lc body).words.length≤S.words.length + (wF body + lc + 4)∧∃ y,y≤lc + 1 + tF body∧(IY S i pc lc body).frames=S.frames ++ [y]:=by
 have h:=Ayc S i pc lc body;have hq:=Fq (FA (GB S i pc lc body) (lc + 1 + (GB S i pc lc body).most)) (lc + 1 + (GB S i pc lc body).most) (GB S i pc lc body).steps (GB S i pc lc body).steps.length;refine ⟨?_,lc + 1 + (GB S i pc lc body).most,?_,?_⟩
 ·have h4:(FA (GB S i pc lc body) (lc + 1 + (GB S i pc lc body).most)).words.length=(GB S i pc lc body).words.length:=rfl;have:=hq.2.2.2.2.2.2.2.2.2.2.2;have h3:=h.words;have e:(Dt S i).words.length=S.words.length:=rfl;show (Fw _ _ _ _).words.length≤_;omega
 ·have h3:=h.most;have e:(Dt S i).most=0:=rfl;omega
 ·refine hq.2.2.2.1.trans ?_;show (GB S i pc lc body).frames ++ _=_;rw [h.frames];rfl
theorem Ata (P:List Fu) (base:Int):∀ j,(CR P (BJ P base) j).words.length≤1 + wP P j∧(CR P (BJ P base) j).frames.length=j∧∀ i,i < j→(CR P (BJ P base) j).frames.getD i 0≤(Bi P i).toNat + 1 + tF (P.getD i MG).body
 | 0=>⟨Nat.le_refl _,rfl,fun i h=>absurd h (Nat.not_lt_zero _)⟩
 | j + 1 => by
   obtain ⟨h1,h2,h3⟩:=Ata P base j;obtain ⟨g1,y,g2,g3⟩:=Awp (CR P (BJ P base) j) j (Db P j).toNat (Bi P j).toNat (P.getD j MG).body;simp only [CR,wP];refine ⟨by omega,by rw [g3,Ew,h2],fun i hi=>?_⟩;rw [g3,List.getD_eq_getElem?_getD,List.getElem?_append];split
   ·rename_i hl;rw [← List.getD_eq_getElem?_getD];exact h3 i Aa
   ·rename_i hl;have:i=j:=Aa;subst this;rw [h2,Nat.sub_self];exact g2
theorem Asc {a b:List Nat} (h:∀ i,a.getD i 0≤b.getD i 0) (l:List Nat):∀ j,Vz a l j≤Vz b l j
 | 0=>Nat.le_refl _
 | j + 1 => by
   have h1:=Asc h l j;have h2:=h (l.getD j 0);simp only [Vz];omega
theorem Asg (l:List Nat) (i v j:Nat):(l.set i v).getD j 0=if i=j∧i < l.length then v else l.getD j 0:=by
 rw [List.getD_eq_getElem?_getD,List.getElem?_set];by_cases h:i=j
 ·subst h;by_cases hl:i < l.length
  ·simp [hl]
  ·simp [hl,List.getD_eq_getElem?_getD]
 ·simp [h,List.getD_eq_getElem?_getD]
theorem Ask (P:List Fu) {a b:List Nat} (hl:a.length=b.length) (h:∀ i,a.getD i 0≤b.getD i 0):∀ k,(JY P a k).length=(JY P b k).length∧∀ i,(JY P a k).getD i 0≤(JY P b k).getD i 0
 | 0=>⟨hl,h⟩
 | k + 1 => by
   obtain ⟨h1,h2⟩:=Ask P hl h k;simp only [JY];refine ⟨by simp [h1],fun i=>?_⟩;rw [Asg,Asg,h1];have g1:=h2 (P.length - 1 - k);have g2:=Asc h2 (cbF (P.getD (P.length - 1 - k) MG).body) (cbF (P.getD (P.length - 1 - k) MG).body).length;split
   ·omega
   ·exact h2 i
def ndB (P:List Fu) (i:Nat):Ex→Bool
 | .mk op n as => if op ≤ 25 then decide (1 ≤ op ∧ as.length = Ht op)
   else if op=26 then as.isEmpty
   else if op=27 then as.isEmpty && decide ((n.toNat:Int) < Bi P i∧Bi P i < 1000)
   else if op=28 then as.length == 1
   else if op=29 then decide (i < n.toNat∧n.toNat < P.length∧(as.length:Int)=Db P n.toNat)
   else if op=30 then as.length == 2
   else if op=31 then as.length == 2
   else false
theorem Axb {P:List Fu} {i:Nat}:∀ {x:Ex},ndB P i x=true→Nd P i x
 | .mk op n as, h => by
   have two:as.length=2→∃ a b,as=[a,b]:=fun hl=>by
    match as,hl with
    | [a,b],_=>exact ⟨a,b,rfl⟩
   simp only [ndB] at h;split at h
   ·rename_i e;have h:=of_decide_eq_true h;exact .ar op n as h.1 e h.2
   split at h
   ·rename_i e;subst e;have:=List.isEmpty_iff.1 h;subst this;exact .con n
   split at h
   ·rename_i e;subst e;simp only [Bool.and_eq_true,decide_eq_true_eq] at h;have:=List.isEmpty_iff.1 h.1;subst this;exact .loc n h.2.1 h.2.2
   split at h
   ·rename_i e;subst e;simp only [beq_iff_eq] at h
    match as,h with
    | [a],_=>exact .load n a
   split at h
   ·rename_i e;subst e;simp only [decide_eq_true_eq] at h;exact .call n as h.1 h.2.1 h.2.2
   split at h
   ·rename_i e;subst e;simp only [beq_iff_eq] at h;obtain ⟨a,b,rfl⟩:=two h;exact .hash n a b
   split at h
   ·rename_i e;subst e;simp only [beq_iff_eq] at h;obtain ⟨a,b,rfl⟩:=two h;exact .pre n a b
   ·cases h
def cE:Nat→Ex→Nat
 | 0,_=>0
 | k + 1,.mk _ _ as=>1 + ((List.range as.length).map fun j=>cE k (as.getD j Ch)).sum
def okE (P:List Fu) (i:Nat):Nat→Ex→Bool
 | 0,_=>false
 | k + 1,.mk op n as=>ndB P i (.mk op n as) && decide (as.length < 1000) && as.all (okE P i k)
theorem Ath {P:List Fu} {i:Nat}:∀ {k:Nat} {x:Ex},okE P i k x=true→RE P i k x (cE k x)
 | 0,_,h=>by cases h
 | k + 1, .mk op n as, h => by
   simp only [okE,Lc6,decide_eq_true_eq] at h;refine .mk k op n as (fun j=>cE k (as.getD j Ch)) (Axb h.1.1) h.1.2 fun j hj=>?_;rw [show as.getD j Ch=as[j] by rw [List.getD_eq_getElem?_getD,List.getElem?_eq_getElem hj];rfl];exact Ath (h.2 _ (List.getElem_mem hj))
def cSt (cb:List IrSt→Nat):IrSt→Nat
 | .mk kind _ a b body els =>
   if kind=2 then 1 + cE 8 a + cE 8 b
   else if kind=3 then 1 + cE 8 a + cb body + cb els
   else if kind=4 then 1 + cE 8 a + cb body
   else 1 + cE 8 a
def Avh (P:List Fu) (i:Nat) (ob:List IrSt→Bool):IrSt→Bool
 | .mk kind n a b body els => okE P i 8 a &&
   (if kind=2 then okE P i 8 b
   else if kind=3 then ob body && ob els
   else if kind=4 then ob body
   else if kind=1 then decide (0≤n∧n < Bi P i)
   else decide (5≤kind∧kind≤7))
def At5:Nat→List IrSt→Nat
 | 0,_=>0
 | l + 1,ss=>((List.range ss.length).map fun j=>cSt (At5 l) (ss.getD j PD)).sum
def Aub (P:List Fu) (i:Nat):Nat→List IrSt→Bool
 | 0,ss=>ss.isEmpty
 | l + 1,ss=>decide (ss.length < 1000) && ss.all (Avh P i (Aub P i l))
theorem Avr {P:List Fu} {i l:Nat} (ih:∀ ss,Aub P i l ss=true→RB P i l ss (At5 l ss)):∀ {s:IrSt},Avh P i (Aub P i l) s=true→RgS P i l s (cSt (At5 l) s)
 | .mk kind n a b body els, h => by
   simp only [Avh,Bool.and_eq_true] at h;obtain ⟨ha,h⟩:=h;have ha:=Ath ha;simp only [cSt];split at h
   ·rename_i e;subst e;exact .store l n a b body els _ _ ha (Ath h)
   split at h
   ·rename_i e;subst e;simp only [Bool.and_eq_true] at h;exact .branch l n a b body els _ _ _ ha (ih _ h.1) (ih _ h.2)
   split at h
   ·rename_i e;subst e;exact .loop l n a b body els _ _ ha (ih _ h)
   split at h
   ·rename_i h2 h3 h4 e;subst e;simp only [decide_eq_true_eq] at h;exact .set l n a b body els _ h.1 h.2 ha
   ·rename_i h2 h3 h4 h1;rw [if_neg h2,if_neg h3,if_neg h4];simp only [decide_eq_true_eq] at h;exact .other l kind n a b body els _ h.1 h.2 ha
theorem Aty {P:List Fu} {i:Nat}:∀ (l:Nat) (ss:List IrSt),Aub P i l ss=true→RB P i l ss (At5 l ss)
 | 0, ss, h => by
   have:ss=[]:=List.isEmpty_iff.1 h;subst this;exact .nil
 | l + 1, ss, h => by
   simp only [Aub,Lc6,decide_eq_true_eq] at h;refine .mk l ss (fun j=>cSt (At5 l) (ss.getD j PD)) h.1 fun j hj=>?_;rw [show ss.getD j PD=ss[j] by rw [List.getD_eq_getElem?_getD,List.getElem?_eq_getElem hj];rfl];exact Avr (Aty l) (h.2 _ (List.getElem_mem hj))
def cP (P:List Fu) (i:Nat):Nat:=At5 16 (P.getD i MG).body
def Aw6 (P:List Fu):Bool :=
 decide (0 < P.length∧P.length≤64) && (List.range P.length).all (fun i=>decide (0≤Db P i∧Db P i≤Bi P i∧Bi P i≤24) && Aub P i 16 (P.getD i MG).body) && decide (Db P 0=0) &&
  decide (((List.range P.length).map (cP P)).sum≤6000) && decide (wP P P.length≤5630) && decide (neS P (frB P)≤512)
theorem Av6 {P:List Fu} (h:Aw6 P=true):RgP P (cP P)∧AK P≤6144∧(Bj P (AK P)).words.length≤5632∧neS P (Bj P (AK P)).frames≤512:=by
 simp only [Aw6,Lc6,decide_eq_true_eq,List.mem_range] at h;obtain ⟨⟨⟨⟨⟨h1,h2⟩,h3⟩,h4⟩,h5⟩,h6⟩:=h;have hw:∀ base:Int,(Bj P base).words.length≤5632:=fun base=>by
  rw [(RF P base).2.2];have:=(Ata P base P.length).1;omega
 refine ⟨⟨by intro e;subst e;simp at h1,h1.2,fun i hi=>(h2 i hi).1,h3,fun i hi=>?_,h4⟩,?_,hw _,?_⟩
 ·have:=Aty 16 _ (h2 i hi).2;rw [Gi hi] at this;unfold cP;rw [Gi hi];exact this
 ·have:=hw 512;unfold AK;omega
 ·refine Nat.le_trans ?_ h6;rw [(RF P _).2.1];obtain ⟨_,g2,g3⟩:=Ata P (AK P) P.length;have hl:(CR P (BJ P (AK P)) P.length).frames.length=(frB P).length:=by simp [g2,frB]
  refine (Ask P hl (fun i=>?_) P.length).2 0;by_cases hi:i < P.length
  ·refine Nat.le_trans (g3 i hi) (Nat.le_of_eq ?_);have e:(frB P).getD i 0=(((List.range P.length).map fun i=>(Bi P i).toNat + 1 + tF (P.getD i MG).body)[i]?).getD 0:=List.getD_eq_getElem?_getD;rw [e,List.getElem?_map,List.getElem?_range hi];rfl
  ·rw [List.getD_eq_getElem?_getD,List.getElem?_eq_none Aa];exact Nat.zero_le _
theorem Av1:Aw6 clP=true:=by decide +kernel
structure Rb (S T:Cd):Prop where
 P:T.P=S.P
 fn:T.fn=S.fn
 frames:T.frames=S.frames
 entries:T.entries=S.entries
 calls:T.calls=S.calls
 bad:T.bad=S.bad
 steps:T.steps=S.steps
 backs:T.backs=S.backs
 temps:T.temps=S.temps
 most:T.most=S.most
 len:T.words.length=S.words.length
theorem Rb.em {S T:Cd} (h:Rb S T) (op:Int) (d a b c:Nat) (n n':Int):Rb (A5 S op d a b c n) (A5 T op d a b c n') :=
 ⟨h.P,h.fn,h.frames,h.entries,h.calls,h.bad,h.steps,h.backs,h.temps,h.most,by rw [Aj,Aj,h.len]⟩
theorem Rb.cn {S T:Cd} (h:Rb S T) (r:Nat) (v:BitVec 64):Rb (H4 S r v) (H4 T r v):=by
 unfold H4;split
 ·exact h.em ..
 ·exact (((((((h.em ..).em ..).em ..).em ..).em ..).em ..).em ..)
theorem Rb.bd2 {S T:Cd} (h:Rb S T):Rb (bd2 S) (bd2 T):=by
 have e:=h.em 30 0 10 0 0 0 0;exact ⟨e.P,e.fn,e.frames,e.entries,e.calls,by show T.bad ++ [T.words.length]=S.bad ++ [S.words.length];rw [h.bad,h.len],e.steps,e.backs,e.temps,e.most,e.len⟩
theorem Rb.bd {S T:Cd} (h:Rb S T) (r:Nat) (n n':Int):Rb (F4 S r n) (F4 T r n'):=((h.em ..).em ..).bd2
theorem Rb.tm {S T:Cd} (h:Rb S T):Rb (OK S) (OK T) :=
 ⟨h.P,h.fn,h.frames,h.entries,h.calls,h.bad,h.steps,h.backs,by show T.temps + 1=_;rw [h.temps];rfl,by show max T.most (T.temps + 1)=_;rw [h.temps,h.most];rfl,h.len⟩
theorem Rb.sv {S T:Cd} (h:Rb S T) (r:Nat):Rb (CI S r) (CI T r):=(h.em ..).tm
theorem Rb.tp {S T:Cd} (h:Rb S T) {t t':Nat} (e:t'=t):Rb (Bp S t) (Bp T t'):=⟨h.P,h.fn,h.frames,h.entries,h.calls,h.bad,h.steps,h.backs,e,h.most,h.len⟩
def RbF (f:Ex→Nat→Cd→Cd):Prop:=∀ x r S T,Rb S T→Rb (f x r S) (f x r T)
theorem Auo {f:Ex→Nat→Cd→Cd} (hf:RbF f) (xs:List Ex) (last:Int) {S T:Cd} (h:Rb S T):∀ j,(Fz f xs last T j).1=(Fz f xs last S j).1∧Rb (Fz f xs last S j).2 (Fz f xs last T j).2
 | 0=>⟨rfl,h⟩
 | j + 1 => by
   obtain ⟨h1,h2⟩:=Auo hf xs last h j;simp only [Fz];split
   ·exact ⟨h1,h2⟩
   split
   ·exact ⟨h1,hf _ _ _ _ h2⟩
   ·exact ⟨by rw [h1],(hf _ _ _ _ h2).sv _⟩
theorem Au7 {S T:Cd} (h:Rb S T) {first first':Nat} {sv sv':List Nat} (e:sv'=sv):∀ k,Rb (QN first S sv k) (QN first' T sv' k)
 | 0=>h
 | k + 1=>by subst e;exact (Au7 h rfl k).em ..
theorem As7 {f:Ex→Nat→Cd→Cd} (hf:RbF f) (xs:List Ex) {S T:Cd} (h:Rb S T):∀ j,Rb (Lj f xs S j) (Lj f xs T j)
 | 0=>h
 | j + 1 => by
   simp only [Lj];split
   ·exact hf _ _ _ _ (As7 hf xs h j)
   ·exact As7 hf xs h j
theorem Au0 {f:Ex→Nat→Cd→Cd} (hf:RbF f) (xs:List Ex) {S T:Cd} (h:Rb S T):Rb (NO f xs S) (NO f xs T):=by
 obtain ⟨h1,h2⟩:=Auo hf xs (D3 xs xs.length) h xs.length;unfold NO;refine Rb.tp (As7 hf xs ?_ xs.length) h.temps;rw [h1];exact Au7 h2 rfl _
theorem Aus {f:Ex→Nat→Cd→Cd} (hf:RbF f) (xs:List Ex) {S T:Cd} (h:Rb S T):∀ j,Rb (GM f xs S j) (GM f xs T j)
 | 0=>h
 | j + 1=>(hf _ _ _ _ (Aus hf xs h j)).sv _
theorem Avl {S T:Cd} (h:Rb S T) {first first':Nat}:∀ j,Rb (caB first S j) (caB first' T j)
 | 0=>h
 | j + 1=>((Avl h j).em ..).em ..
theorem Rb.cc {S T:Cd} (h:Rb S T) (n:Nat):Rb (caC S n) (caC T n):=by
 have e:=h.em 32 15 0 0 0 0 0;exact ⟨e.P,e.fn,e.frames,e.entries,by show T.calls ++ [(T.words.length,n)]=S.calls ++ [(S.words.length,n)];rw [h.calls,h.len],e.bad,e.steps,e.backs,e.temps,e.most,e.len⟩
theorem Rb.cd {S T:Cd} (h:Rb S T) (r:Nat):Rb (caD S r) (caD T r):=by
 unfold caD;split
 ·exact h
 ·exact h.em ..
theorem Rb.ce {S T:Cd} (h:Rb S T) {a b a' b':Nat} (ea:a'=a) (eb:b'=b):Rb (N0 S a b) (N0 T a' b') :=
 ⟨h.P,h.fn,h.frames,h.entries,h.calls,h.bad,by show T.steps ++ [a',b']=S.steps ++ [a,b];rw [h.steps,ea,eb],h.backs,h.temps,h.most,h.len⟩
theorem Avc {S T:Cd} (h:Rb S T) {first first':Nat} (m n:Nat):Rb (caG S first m n) (caG T first' m n):=((Avl ((h.em ..).em ..) m).em ..).cc n
theorem Ayw {S T:Cd} (h:Rb S T) {first first':Nat} (m n reg:Nat):Rb (caF S first m n reg) (caF T first' m n reg) :=
 ((((Avc h m n).em ..).em ..).cd reg).ce h.len (Avc h m n).len
theorem Axa {f:Ex→Nat→Cd→Cd} (hf:RbF f) (xs:List Ex) (n reg:Nat) {S T:Cd} (h:Rb S T):Rb (caS f xs n reg S) (caS f xs n reg T) :=
 Ayw (Rb.tp (Aus hf xs h xs.length) h.temps) xs.length n reg
theorem Aru:∀ k,RbF (AO k)
 | 0=>fun _ _ _ _ h=>h
 | k + 1 => fun x r S T h => by
   obtain ⟨op,n,as⟩:=x;have hO:=Au0 (Aru k) as h;simp only [AO];split
   ·exact hO.em ..
   split
   ·exact h.cn r n
   split
   ·exact h.em ..
   split
   ·split
    ·exact h.em ..
    ·exact (hO.bd ..).em ..
   split
   ·exact Axa (Aru k) as n.toNat r h
   ·exact (((((((hO.bd ..).bd ..).em ..).em ..).em ..).em ..).em ..)
theorem Rb.bk {S T:Cd} (h:Rb S T):Rb (KY S) (KY T):=by
 have e:=h.em 29 0 0 0 0 0 0;exact ⟨e.P,e.fn,e.frames,e.entries,e.calls,e.bad,e.steps,by show T.backs ++ [T.words.length]=S.backs ++ [S.words.length];rw [h.backs,h.len],e.temps,e.most,e.len⟩
theorem Rb.pt {S T:Cd} (h:Rb S T) (a a' n n':Nat):Rb (Ei S a n) (Ei T a' n'):=⟨h.P,h.fn,h.frames,h.entries,h.calls,h.bad,h.steps,h.backs,h.temps,h.most,by rw [Hl,Hl,h.len]⟩
theorem Rb.he {S T:Cd} (h:Rb S T) (a a':Nat):Rb (Ga S a) (Ga T a'):=h.pt ..
def RbB (bl:List IrSt→Cd→Cd):Prop:=∀ ss S T,Rb S T→Rb (bl ss S) (bl ss T)
theorem Auz {bl:List IrSt→Cd→Cd} (hb:RbB bl) (s:IrSt) {S T:Cd} (h:Rb S T):Rb (KQ bl s S) (KQ bl s T):=by
 obtain ⟨kind,n,a,b,body,els⟩:=s;have hE:=Aru 8 a 0 S T h;simp only [KQ];split
 ·exact hE.em ..
 split
 ·exact ((Au0 (Aru 8) [a,b] h).bd ..).em ..
 split
 ·exact (hb els _ _ (((hb body _ _ (hE.em ..)).em ..).he ..)).he ..
 split
 ·exact ((hb body _ _ (hE.em ..)).em ..).he ..
 split
 ·exact hE.bk
 split
 ·exact hE
 ·exact hE.em ..
theorem As0 {f:IrSt→Cd→Cd} (hf:∀ s S T,Rb S T→Rb (f s S) (f s T)) (ss:List IrSt) {S T:Cd} (h:Rb S T):∀ j,Rb (Ll f ss S j) (Ll f ss T j)
 | 0=>h
 | j + 1=>hf _ _ _ (As0 hf ss h j)
theorem Avd:∀ k (s:IrSt) (S T:Cd),Rb S T→Rb (P6 k s S) (P6 k s T)
 | 0=>fun s S T h=>Auz (fun _ _ _ h=>h) s h
 | k + 1=>fun s S T h=>Auz (fun ss _ _ h=>As0 (Avd k) ss h ss.length) s h
theorem Rb.f0 {S T:Cd} (h:Rb S T) (i:Nat):Rb (Dt S i) (Dt T i):=⟨h.P,rfl,h.frames,by show T.entries ++ [T.words.length]=S.entries ++ [S.words.length];rw [h.entries,h.len],h.calls,h.bad,rfl,rfl,rfl,rfl,h.len⟩
theorem Aux {S T:Cd} (h:Rb S T) (p:Nat):∀ j,Rb (GA S p j) (GA T p j)
 | 0=>h
 | j + 1=>(Aux h p j).em ..
theorem Auq {S T:Cd} (h:Rb S T) (l l':List Nat):∀ j,Rb (G1 S l j) (G1 T l' j)
 | 0=>h
 | j + 1=>(Auq h l l' j).he ..
theorem Au8 {S T:Cd} (h:Rb S T) (n n':Nat) (l l':List Nat):∀ j,Rb (Fw S n l j) (Fw T n' l' j)
 | 0=>h
 | j + 1=>(Au8 h n n' l l' j).pt ..
theorem Avv {S T:Cd} (h:Rb S T) (i:Nat) (lc:Int):Rb (BZ S i lc) (BZ T i lc):=by
 unfold BZ;split
 ·exact h.em ..
 ·exact (h.em ..).em ..
theorem Rb.fr {S T:Cd} (h:Rb S T) {n n':Nat} (e:n'=n):Rb (FA S n) (FA T n'):=⟨h.P,h.fn,by show T.frames ++ [n']=S.frames ++ [n];rw [h.frames,e],h.entries,h.calls,h.bad,h.steps,h.backs,h.temps,h.most,h.len⟩
theorem Azu {S T:Cd} (h:Rb S T) (i pc lc:Nat) (body:List IrSt):Rb (IY S i pc lc body) (IY T i pc lc body):=by
 have hA:Rb (IT S i pc lc body) (IT T i pc lc body):=(As0 (Avd 15) body (Aux ((h.f0 i).em ..) pc (lc - pc)) body.length).em ..;have hB:Rb (GB S i pc lc body) (GB T i pc lc body):=by
  unfold GB;rw [hA.backs];exact Avv (Auq hA _ _ _) i lc
 unfold IY;rw [hB.most,hB.steps];exact Au8 (hB.fr rfl) _ _ _ _ _
theorem Au2 (P:List Fu) {S T:Cd} (h:Rb S T):∀ j,Rb (CR P S j) (CR P T j)
 | 0=>h
 | j + 1=>Azu (Au2 P h j) j _ _ _
theorem Aur (P:List Fu) (b b':Int):(Bj P b').words.length=(Bj P b).words.length:=by
 have h0:Rb (cd0 P b) (cd0 P b'):=⟨rfl,rfl,rfl,rfl,rfl,rfl,rfl,rfl,rfl,rfl,rfl⟩
 have h:=Au2 P (show Rb (BJ P b) (BJ P b') from h0.em ..) P.length;rw [(RF P b).2.2,(RF P b').2.2,h.len]
theorem At7 (P:List Fu) (b:Int):(Bj P b).words.length≤AK P:=by
 rw [Aur P 512 b];exact Nat.le_add_right _ _
end Mv
