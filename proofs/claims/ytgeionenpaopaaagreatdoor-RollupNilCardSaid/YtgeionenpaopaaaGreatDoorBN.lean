/- A part. -/
import Derived.Test.YtgeionenpaopaaaGreatDoorBL
set_option linter.all false
namespace Mv
open Go
def Cq (K:Nat) (S T:Cd):Prop:=∀ p ∈ T.calls,p ∈ S.calls ∨ p.2 < K
theorem Cq.eq {K:Nat} {S T:Cd} (h:T.calls=S.calls):Cq K S T:=fun p hp=>.inl (h ▸ hp)
theorem Cq.trans {K:Nat} {S T U:Cd} (h:Cq K S T) (g:Cq K T U):Cq K S U:=fun p hp=>(g p hp).elim (h p) .inr
theorem YT {K:Nat} {f:Ex→Nat→Cd→Cd} {xs:List Ex} (hf:∀ j,j < xs.length→∀ r S,Cq K S (f (xs.getD j Ch) r S)) (last:Int) (S:Cd):∀ j,j≤xs.length→Cq K S (Fz f xs last S j).2
 | 0,_=>.eq rfl
 | j + 1, h => by
   have ih:=YT hf last S j Aa;simp only [Fz];split
   ·exact ih
   split
   ·exact ih.trans (hf j Aa _ _)
   ·exact (ih.trans (hf j Aa _ _)).trans (.eq rfl)
theorem YW {K:Nat} (first:Nat) (S:Cd) (sv:List Nat):∀ k,Cq K S (QN first S sv k)
 | 0=>.eq rfl
 | k + 1=>(YW first S sv k).trans (.eq rfl)
theorem Z1 {K:Nat} {f:Ex→Nat→Cd→Cd} {xs:List Ex} (hf:∀ j,j < xs.length→∀ r S,Cq K S (f (xs.getD j Ch) r S)) (S:Cd):∀ j,j≤xs.length→Cq K S (Lj f xs S j)
 | 0,_=>.eq rfl
 | j + 1, h => by
   have ih:=Z1 hf S j Aa;simp only [Lj];split
   ·exact ih.trans (hf j Aa _ _)
   ·exact ih
theorem YM {K:Nat} {f:Ex→Nat→Cd→Cd} {xs:List Ex} (hf:∀ j,j < xs.length→∀ r S,Cq K S (f (xs.getD j Ch) r S)) (S:Cd):Cq K S (NO f xs S) :=
 (((YT hf _ S _ (Nat.le_refl _)).trans (YW _ _ _ _)).trans (Z1 hf _ _ (Nat.le_refl _))).trans (.eq rfl)
theorem Ys {K:Nat} {f:Ex→Nat→Cd→Cd} {xs:List Ex} (hf:∀ j,j < xs.length→∀ r S,Cq K S (f (xs.getD j Ch) r S)) (S:Cd):∀ j,j≤xs.length→Cq K S (GM f xs S j)
 | 0,_=>.eq rfl
 | j + 1,h=>((Ys hf S j Aa).trans (hf j Aa _ _)).trans (.eq rfl)
theorem L8 (first:Nat) (S:Cd):∀ j,(caB first S j).calls=S.calls
 | 0=>rfl
 | j + 1=>L8 first S j
theorem Alg {K:Nat} (S:Cd) (first m n reg:Nat) (hn:n < K):Cq K S (caF S first m n reg):=by
 have e:(caF S first m n reg).calls=S.calls ++ [((A5 (caB first (A5 (A5 S 26 11 0 0 0 0) 1 10 14 11 0 0) m) 1 14 10 12 0 0).words.length,n)]:=by
  show (caD _ reg).calls=_;have:∀ T:Cd,(caD T reg).calls=T.calls:=fun T=>by unfold caD;split <;> rfl
  rw [this];show (caB first _ m).calls ++ _=_;rw [L8];rfl
 intro p hp;rw [e] at hp;rcases List.mem_append.1 hp with hp | hp
 ·exact .inl hp
 ·simp at hp;subst hp;exact .inr hn
theorem GK (P:List Fu) (i:Nat):∀ (k:Nat) (x:Ex) (c:Nat),RE P i k x c→∀ r S,Cq P.length S (AO k x r S)
 | 0,_,_,h,_,_=>by cases h
 | k + 1, .mk op n as, _, .mk _ _ _ _ c hn hl ha, r, S => by
   have hf:∀ j,j < as.length→∀ r S,Cq P.length S (AO k (as.getD j Ch) r S):=fun j hj=>by
    rw [List.getD_eq_getElem?_getD,List.getElem?_eq_getElem hj];exact GK P i k as[j] (c j) (ha j hj)
   have hO:=YM hf S;simp only [AO];split
   ·exact hO.trans (.eq (By ..))
   split
   ·exact .eq (Mn S r n)
   split
   ·exact .eq (By ..)
   split
   ·split
    ·exact .eq (By ..)
    ·exact hO.trans (.eq (by rw [By,G4]))
   split
   ·rename_i h29;cases hn with
    | call n as h1 h2 h3=>exact ((Ys hf S _ (Nat.le_refl _)).trans (.eq rfl)).trans (Alg _ _ _ _ _ h2)
    | ar op n as h1 h2 h3=>omega
    | con n=>exact absurd h29 Ab
    | loc n h1 h2=>exact absurd h29 Ab
    | load n a=>exact absurd h29 Ab
    | hash n a b=>exact absurd h29 Ab
    | pre n a b=>exact absurd h29 Ab
   ·exact hO.trans (.eq (by simp only [By,G4]))
theorem Qc {K:Nat} {f:IrSt→Cd→Cd} {ss:List IrSt} (hf:∀ j,j < ss.length→∀ S,Cq K S (f (ss.getD j PD) S)) (S:Cd):∀ j,j≤ss.length→Cq K S (Ll f ss S j)
 | 0,_=>.eq rfl
 | j + 1,h=>(Qc hf S j Aa).trans (hf j Aa _)
theorem Wk (P:List Fu) (i l:Nat) (bl:List IrSt→Cd→Cd) (hbl:∀ ss c,RB P i l ss c→∀ S,Cq P.length S (bl ss S)):∀ (s:IrSt) (c:Nat),RgS P i l s c→∀ S,Cq P.length S (KQ bl s S):=by
 intro s c h S;cases h with
 | set _ n a b bo el ca h0 h1 ha =>
   simp only [KQ,if_true];exact (GK P i 8 a ca ha 0 S).trans (.eq (By ..))
 | store _ n a b bo el ca cb ha hb =>
   simp only [KQ,show ((2:Int)=1)=False by decide,Dh];have hf:∀ j,j < [a,b].length→∀ r S,Cq P.length S (AO 8 ([a,b].getD j Ch) r S):=fun j hj=>by
    have hj2:j=0 ∨ j=1:=by have:j < 2:=hj;omega
    rcases hj2 with rfl | rfl
    ·exact GK P i 8 a ca ha
    ·exact GK P i 8 b cb hb
   exact (YM hf S).trans (.eq (by rw [By,G4]))
 | branch _ n a b bo el ca cb ce ha hb he =>
   simp only [KQ,show ((3:Int)=1)=False by decide,show ((3:Int)=2)=False by decide,Dh];have k1:=((GK P i 8 a ca ha 0 S).trans (.eq (By _ 30 0 0 0 0 0))).trans (hbl bo cb hb _);have k2:Cq P.length _ (Ga (A5 (bl bo (A5 (AO 8 a 0 S) 30 0 0 0 0 0)) 29 0 0 0 0 0) (AO 8 a 0 S).words.length):=k1.trans (.eq rfl);exact (k2.trans (hbl el ce he _)).trans (.eq rfl)
 | loop _ n a b bo el ca cb ha hb =>
   simp only [KQ,show ((4:Int)=1)=False by decide,show ((4:Int)=2)=False by decide,show ((4:Int)=3)=False by decide,Dh];have k1:=((GK P i 8 a ca ha 0 S).trans (.eq (By _ 30 0 0 0 0 0))).trans (hbl bo cb hb _);exact k1.trans (.eq rfl)
 | other _ k n a b bo el ca h5 h7 ha =>
   have h:=GK P i 8 a ca ha 0 S;simp only [KQ];rw [if_neg Aa,if_neg Aa,if_neg Aa,if_neg Aa];split
   ·exact h.trans (.eq rfl)
   split
   ·exact h
   ·exact h.trans (.eq (By ..))
theorem W2 (P:List Fu) (i:Nat):∀ (k:Nat) (s:IrSt) (c:Nat),RgS P i k s c→∀ S,Cq P.length S (P6 k s S)
 | 0=>Wk P i 0 _ fun ss c h S=>.eq rfl
 | k + 1 => Wk P i (k + 1) _ fun ss c h S => by
   cases h with
   | mk _ _ c hl h =>
     exact Qc (fun j hj S=>by
      rw [List.getD_eq_getElem?_getD,List.getElem?_eq_getElem hj]
      exact W2 P i k ss[j] (c j) (h j hj) S) S ss.length (Nat.le_refl _)
structure WFw (S:Cd):Prop where
 bl:S.bad.length≤S.words.length
 cl:S.calls.length≤S.words.length
 ck:∀ p ∈ S.calls,p.1 < S.words.length
 bk:∀ p ∈ S.bad,p < S.words.length
 cs:S.calls.Pairwise fun p q=>p.1 < q.1
theorem WFc.wd {S:Cd} (h:WFc S):WFw S:=⟨h.bl,h.cl,h.ck,h.bk,h.cs⟩
def Dt (S:Cd) (i:Nat):Cd:={ S with fn:=i,temps:=0,most:=0,backs:=[],steps:=[],entries:=S.entries ++ [S.words.length] }
def GA (S:Cd) (p:Nat):Nat→Cd
 | 0=>S
 | j + 1=>A5 (GA S p j) 28 0 14 12 0 ((p + j:Nat):Int)
def G1 (S:Cd) (l:List Nat):Nat→Cd
 | 0=>S
 | j + 1=>Ga (G1 S l j) (l.getD j 0)
def Fw (S:Cd) (n:Nat) (l:List Nat):Nat→Cd
 | 0=>S
 | j + 1=>Ei (Fw S n l j) (l.getD j 0) n
def BZ (S:Cd) (i:Nat) (lc:Int):Cd:=if i=0 then A5 S 0 0 0 0 0 0 else A5 (A5 S 27 15 14 0 0 lc) 33 0 15 0 0 0
def FA (S:Cd) (n:Nat):Cd:={ S with frames:=S.frames ++ [n] }
def IT (S:Cd) (i pc lc:Nat) (body:List IrSt):Cd:=A5 (Ll (P6 15) body (GA (A5 (Dt S i) 28 0 14 15 0 lc) pc (lc - pc)) body.length) 26 0 0 0 0 0
def GB (S:Cd) (i pc lc:Nat) (body:List IrSt):Cd:=BZ (G1 (IT S i pc lc body) (IT S i pc lc body).backs (IT S i pc lc body).backs.length) i lc
def IY (S:Cd) (i pc lc:Nat) (body:List IrSt):Cd :=
 Fw (FA (GB S i pc lc body) (lc + 1 + (GB S i pc lc body).most)) (lc + 1 + (GB S i pc lc body).most) (GB S i pc lc body).steps (GB S i pc lc body).steps.length
theorem Nj (S:Cd) (p:Nat):∀ j,Sta S (GA S p j) 0 0 j
 | 0=>Sta.refl S 0
 | j + 1=>(Nj S p j).trans (Sta.em _ _ _ _ _ _ _) 0 Aa Aa
theorem Rq (S:Cd) (p:Nat):∀ j,(GA S p j).P=S.P∧(GA S p j).base=S.base∧(GA S p j).fn=S.fn∧(GA S p j).frames=S.frames∧(GA S p j).entries=S.entries∧(GA S p j).calls=S.calls∧(GA S p j).bad=S.bad∧(GA S p j).steps=S.steps∧(GA S p j).backs=S.backs∧(GA S p j).temps=S.temps∧(GA S p j).most=S.most∧(GA S p j).words.length=S.words.length + j
 | 0=>⟨rfl,rfl,rfl,rfl,rfl,rfl,rfl,rfl,rfl,rfl,rfl,rfl⟩
 | j + 1 => by
   have h:=Rq S p j;refine ⟨h.1,h.2.1,h.2.2.1,h.2.2.2.1,h.2.2.2.2.1,h.2.2.2.2.2.1,h.2.2.2.2.2.2.1,h.2.2.2.2.2.2.2.1,h.2.2.2.2.2.2.2.2.1,h.2.2.2.2.2.2.2.2.2.1,h.2.2.2.2.2.2.2.2.2.2.1,?_⟩;show (A5 (GA S p j) 28 0 14 12 0 _).words.length=_;rw [Aj,h.2.2.2.2.2.2.2.2.2.2.2];omega
theorem RU (S:Cd) (l:List Nat):∀ j,Sta S (G1 S l j) 0 0 0
 | 0=>Sta.refl S 0
 | j + 1=>(RU S l j).trans (Sta.he _ _) 0 Aa Aa
theorem RA (S:Cd) (n:Nat) (l:List Nat):∀ j,Sta S (Fw S n l j) 0 0 0
 | 0=>Sta.refl S 0
 | j + 1=>(RA S n l j).trans (Sta.pt _ _ _) 0 Aa Aa
theorem Fq (S:Cd) (n:Nat) (l:List Nat):∀ j,(Fw S n l j).P=S.P∧(Fw S n l j).base=S.base∧(Fw S n l j).fn=S.fn∧(Fw S n l j).frames=S.frames∧(Fw S n l j).entries=S.entries∧(Fw S n l j).calls=S.calls∧(Fw S n l j).bad=S.bad∧(Fw S n l j).steps=S.steps∧(Fw S n l j).backs=S.backs∧(Fw S n l j).temps=S.temps∧(Fw S n l j).most=S.most∧(Fw S n l j).words.length=S.words.length
 | 0=>⟨rfl,rfl,rfl,rfl,rfl,rfl,rfl,rfl,rfl,rfl,rfl,rfl⟩
 | j + 1 => by
   have h:=Fq S n l j;refine ⟨h.1,h.2.1,h.2.2.1,h.2.2.2.1,h.2.2.2.2.1,h.2.2.2.2.2.1,h.2.2.2.2.2.2.1,h.2.2.2.2.2.2.2.1,h.2.2.2.2.2.2.2.2.1,h.2.2.2.2.2.2.2.2.2.1,h.2.2.2.2.2.2.2.2.2.2.1,?_⟩;show (Ei (Fw S n l j) (l.getD j 0) n).words.length=_;rw [Hl];exact h.2.2.2.2.2.2.2.2.2.2.2
theorem Ka (S:Cd) (l:List Nat):∀ j,(G1 S l j).P=S.P∧(G1 S l j).base=S.base∧(G1 S l j).fn=S.fn∧(G1 S l j).frames=S.frames∧(G1 S l j).entries=S.entries∧(G1 S l j).calls=S.calls∧(G1 S l j).bad=S.bad∧(G1 S l j).steps=S.steps∧(G1 S l j).backs=S.backs∧(G1 S l j).temps=S.temps∧(G1 S l j).most=S.most∧(G1 S l j).words.length=S.words.length
 | 0=>⟨rfl,rfl,rfl,rfl,rfl,rfl,rfl,rfl,rfl,rfl,rfl,rfl⟩
 | j + 1 => by
   have h:=Ka S l j;refine ⟨h.1,h.2.1,h.2.2.1,h.2.2.2.1,h.2.2.2.2.1,h.2.2.2.2.2.1,h.2.2.2.2.2.2.1,h.2.2.2.2.2.2.2.1,h.2.2.2.2.2.2.2.2.1,h.2.2.2.2.2.2.2.2.2.1,h.2.2.2.2.2.2.2.2.2.2.1,?_⟩;show (Ga (G1 S l j) (l.getD j 0)).words.length=_;rw [Jm];exact h.2.2.2.2.2.2.2.2.2.2.2
theorem FH {S:Cd} (h:WFw S) (i:Nat):WFc (Dt S i):=⟨h.bl,Nat.zero_le _,Nat.zero_le _,h.cl,h.ck,h.bk,fun p hp=>Q4,fun p hp=>Q4,h.cs⟩
theorem W5 (S:Cd) (i:Nat) (lc:Int):Sta S (BZ S i lc) 0 0 2:=by
 unfold BZ;split
 ·exact (Sta.em _ _ _ _ _ _ _).mono Aa Aa
 ·exact (Sta.em _ _ _ _ _ _ _).trans (Sta.em _ _ _ _ _ _ _) 0 Aa Aa
theorem Yi (P:List Fu) (i:Nat) (body:List IrSt) (c:Nat) (hb:RB P i 16 body c) (T:Cd) (ht:T.temps=0):Sta T (Ll (P6 15) body T body.length) 0 c (24 * c):=by
 cases hb with
 | mk _ _ c hlen h =>
 have h2:=Gk (c:=c) (fun j hj S=>by
  rw [List.getD_eq_getElem?_getD,List.getElem?_eq_getElem hj]
  exact HF P i 15 body[j] (c j) (h j hj) S) T body.length (Nat.le_refl _)
 have es:((List.range body.length).map c).sum=Be c body.length:=rfl;rw [es];exact h2.mono Aa (Nat.le_refl _)
theorem Sl (P:List Fu) (S:Cd) (i pc lc:Nat) (body:List IrSt) (c:Nat) (hb:RB P i 16 body c) (hl:lc≤24):Sta (Dt S i) (IT S i pc lc body) 0 c (24 * c + 26):=by
 cases hb with
 | mk _ _ c hlen h =>
 have h1:=(Sta.em (Dt S i) 28 0 14 15 0 lc).trans (Nj _ pc (lc - pc)) 0 Aa Aa;have t1:=h1.temps;have e:(Dt S i).temps=0:=rfl
 have h2:=Gk (c:=c) (fun j hj S=>by
  rw [List.getD_eq_getElem?_getD,List.getElem?_eq_getElem hj]
  exact HF P i 15 body[j] (c j) (h j hj) S) (GA (A5 (Dt S i) 28 0 14 15 0 lc) pc (lc - pc)) body.length (Nat.le_refl _)
 have es:((List.range body.length).map c).sum=Be c body.length:=rfl;rw [es];exact ((h1.trans h2 (Be c body.length) Aa (by rw [t1,e];omega)).trans (Sta.em _ 26 0 0 0 0 0) (Be c body.length) Aa Aa).mono (Nat.le_refl _) Aa
theorem Nv (P:List Fu) (S:Cd) (i pc lc:Nat) (body:List IrSt) (c:Nat) (hb:RB P i 16 body c) (hl:lc≤24):Sta (Dt S i) (GB S i pc lc body) 0 c (24 * c + 28) :=
 (((Sl P S i pc lc body c hb hl).trans (RU _ _ _) c Aa Aa).trans (W5 _ i lc) c Aa Aa).mono (Nat.le_refl _) Aa
theorem Af5 (P:List Fu) (S:Cd) (i pc lc:Nat) (body:List IrSt) (c:Nat) (hb:RB P i 16 body c):Cq P.length S (IY S i pc lc body):=by
 have h1:(IY S i pc lc body).calls=(GB S i pc lc body).calls:=(Fq _ _ _ _).2.2.2.2.2.1;have h2:(GB S i pc lc body).calls=(IT S i pc lc body).calls:=by
  have:∀ T:Cd,(BZ T i lc).calls=T.calls:=fun T=>by unfold BZ;split <;> rfl
  exact (this _).trans (Ka _ _ _).2.2.2.2.2.1
 have h3:Cq P.length (GA (A5 (Dt S i) 28 0 14 15 0 lc) pc (lc - pc)) (Ll (P6 15) body (GA (A5 (Dt S i) 28 0 14 15 0 lc) pc (lc - pc)) body.length):=by
  cases hb with
  | mk _ _ c hl h =>
    exact Qc (fun j hj S=>by
     rw [List.getD_eq_getElem?_getD,List.getElem?_eq_getElem hj]
     exact W2 P i 15 body[j] (c j) (h j hj) S) _ body.length (Nat.le_refl _)
 have h4:(GA (A5 (Dt S i) 28 0 14 15 0 lc) pc (lc - pc)).calls=S.calls:=(Rq _ _ _).2.2.2.2.2.1;have h5:Cq P.length S (IT S i pc lc body):=((Cq.eq h4).trans h3).trans (.eq rfl);exact h5.trans (.eq (h1.trans h2))
theorem Alf (P:List Fu) (S:Cd) (i pc lc:Nat) (body:List IrSt) (c:Nat) (hb:RB P i 16 body c) (hl:lc≤24) (hw:WFw S) :
 (IY S i pc lc body).P=S.P∧(IY S i pc lc body).base=S.base∧(IY S i pc lc body).frames=S.frames ++ [lc + 1 + (GB S i pc lc body).most]∧(IY S i pc lc body).entries=S.entries ++ [S.words.length] ∧
  (IY S i pc lc body).words.length≤S.words.length + 24 * c + 28∧S.words.length≤(IY S i pc lc body).words.length∧WFw (IY S i pc lc body):=by
 have h:=Nv P S i pc lc body c hb hl;have hq:=Fq (FA (GB S i pc lc body) (lc + 1 + (GB S i pc lc body).most)) (lc + 1 + (GB S i pc lc body).most) (GB S i pc lc body).steps (GB S i pc lc body).steps.length;have hs:=RA (FA (GB S i pc lc body) (lc + 1 + (GB S i pc lc body).most)) (lc + 1 + (GB S i pc lc body).most) (GB S i pc lc body).steps (GB S i pc lc body).steps.length;have hg:=h.wf (FH hw i);have h4:(FA (GB S i pc lc body) (lc + 1 + (GB S i pc lc body).most)).words.length=(GB S i pc lc body).words.length:=rfl;refine ⟨hq.1.trans h.P,hq.2.1.trans h.base,?_,hq.2.2.2.2.1.trans h.entries,?_,?_,?_⟩
 ·refine hq.2.2.2.1.trans ?_;show (GB S i pc lc body).frames ++ _=_;rw [h.frames];rfl
 ·have:=hq.2.2.2.2.2.2.2.2.2.2.2;have h3:=h.words;have e:(Dt S i).words.length=S.words.length:=rfl;show (Fw _ _ _ _).words.length≤_;omega
 ·have:=hq.2.2.2.2.2.2.2.2.2.2.2;have h3:=h.grow;have e:(Dt S i).words.length=S.words.length:=rfl;show _≤(Fw _ _ _ _).words.length;omega
 ·exact (hs.wf ⟨hg.bl,hg.sl,hg.kll,hg.cl,hg.ck,hg.bk,hg.sk,hg.kk,hg.cs⟩).wd
theorem Aoi (S:Cd) (n:Nat):(FA S n).P=S.P:=rfl
theorem Zd (S:Cd) (n:Nat):(FA S n).base=S.base:=rfl
theorem Ag7 (S:Cd) (n:Nat):(FA S n).fn=S.fn:=rfl
theorem Pd (S:Cd) (n:Nat):(FA S n).entries=S.entries:=rfl
theorem TI (S:Cd) (n:Nat):(FA S n).calls=S.calls:=rfl
theorem Aat (S:Cd) (n:Nat):(FA S n).bad=S.bad:=rfl
theorem TZ (S:Cd) (n:Nat):(FA S n).steps=S.steps:=rfl
theorem UT (S:Cd) (n:Nat):(FA S n).backs=S.backs:=rfl
theorem TS (S:Cd) (n:Nat):(FA S n).temps=S.temps:=rfl
theorem VD (S:Cd) (n:Nat):(FA S n).most=S.most:=rfl
theorem QK (S:Cd) (n:Nat):(FA S n).frames=S.frames ++ [n]:=rfl
theorem TX (S:Cd) (n:Nat):(FA S n).words=S.words:=rfl
def LFr:=(De @Aoi @Zd @Ag7 @QK @Pd @TI @Aat @TZ @UT @TS @VD @TX)
end Mv
