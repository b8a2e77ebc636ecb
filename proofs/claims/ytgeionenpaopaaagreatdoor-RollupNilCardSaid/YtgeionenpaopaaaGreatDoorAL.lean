/- A part. -/
import Derived.Test.YtgeionenpaopaaaGreatDoorAK
set_option linter.all false
namespace Mv
open Go
section
variable {M:Seat} {ops:Array Oper} {L:List DOp} {N wm:Nat} {F:Pl} {c:Ctx}
def D9 (L:List DOp) (p:Nat):Nat:=((L[p]?).map (·.ix)).getD 0
def lst (L:List DOp) (S:Array Bool) (p:Nat):Prop:=S.getD (D9 L p) false=true
def Ec (L:List DOp) (N p:Nat):Nat:=bs N L.length p (Di L p)
structure Plan (M:Seat) (ops:Array Oper) (L:List DOp) (N wm:Nat) (F:Pl):Prop where
 D:DFacts M ops L
 all:∀ p,p < L.length→PlanAt M L N wm F p
 ids0:∀ id,Af (F.H 0) id=true→id < N
theorem Af4 (hD:DFacts M ops L):∀ (n p:Nat),p≤n→p < L.length→∀ j,(BX L p).testBit j=true→j < p:=by
 intro n;induction n with
 | zero =>
   intro p hp hl j hj;obtain ⟨o,ho⟩:=hD.at' p hl;obtain ⟨e,he,hb,h⟩:=ho.bf j hj;have:=ho.lt e he hb;omega
 | succ n ih =>
   intro p hp hl j hj;obtain ⟨o,ho⟩:=hD.at' p hl;obtain ⟨e,he,hb,h⟩:=ho.bf j hj;have h1:=ho.lt e he hb;rcases h with rfl | h
   ·exact h1
   ·have:=ih (D7 L e.on) Aa Aa j h;omega
theorem E5 (hP:Plan M ops L N wm F):∀ p,p≤L.length→(F.A p).length=(F.A 0).length
 | 0,_=>rfl
 | p + 1, h => by
   rw [(hP.all p Aa).next];have:=E5 hP p Aa;cases hd:IU L p with
   | none=>simpa [put] using this
   | some i=>simpa [put] using this
theorem Qd (hP:Plan M ops L N wm F) {t:Nat}:∀ p,p≤L.length→(∀ j,j < p→IU L j ≠ some t)→(F.A p).getD t .junk=(F.A 0).getD t .junk
 | 0,_,_=>rfl
 | p + 1, h, hn => by
   rw [(hP.all p Aa).next,L5,if_neg (fun hc=>hn p Aa hc.1)];exact Qd hP p Aa (fun j hj=>hn j Aa)
theorem Atl (hP:Plan M ops L N wm F) {t j:Nat} (hj:IU L j=some t) (ht:t < (F.A 0).length):∀ p,p≤L.length→j < p→(F.A p).getD t .junk=F.v j
 | 0,_,h=>absurd h (Nat.not_lt_zero _)
 | p + 1, h, hjp => by
   rw [(hP.all p Aa).next,L5];by_cases hjp':j=p
   ·subst hjp';rw [if_pos ⟨hj,by rw [E5 hP j Aa];exact ht⟩]
   ·rw [if_neg (fun hc=>hjp' (hP.D.uni j p t Aa Aa hj hc.1))];exact Atl hP hj ht p Aa Aa
theorem L4 {lo hi:Nat}:∀ {H:Hp},Dq lo hi H→∀ id,Af H id=true→id < lo ∨ hi≤id
 | [],_,id,h=>by simp [Af] at h
 | (i, v) :: r, hk, id, h => by
   simp only [Dq] at hk;simp only [V1,beq_iff_eq] at h;rcases h with rfl | h
   ·exact hk.1
   ·exact L4 hk.2 id h
theorem VW (hP:Plan M ops L N wm F) {p:Nat} (hp:p < L.length) (hw:(Di L p).isW=false) :
 F.H (p + 1)=if (Di L p).isA=true∧F.x p=true then (Ec L N p,hget (F.H (p + 1)) (Ec L N p)) :: F.H p else F.H p:=by
 have h:=hP.all p hp;cases hx:F.x p with
 | false=>simp [(h.skip hx).2]
 | true =>
   obtain ⟨ho,_⟩:=h.run hx;unfold Dy at ho;cases hk:Di L p with
   | lo o =>
     rw [hk] at ho hw;simp only at ho;obtain ⟨hpre,_,hH⟩:=ho;by_cases hA:LK.isA (.lo o)=true
     ·obtain ⟨cc,hc⟩:=Rr (F.A p) (bs N L.length p (.lo o)) o hA ⟨_,hpre⟩;rw [hc] at hH;have hb:Ec L N p=bs N L.length p (.lo o):=by simp [Ec,hk]
      rw [if_pos ⟨hA,rfl⟩,hb,← hH];simp [hget]
     ·rw [if_neg (fun hc=>hA hc.1),← hH];exact (V9 _ _ _ _ hw (by simpa using hA))
   | call f xs=>rw [hk] at hw;cases hw
   | dyn x xs=>rw [hk] at hw;cases hw
theorem Fr {p:Nat} (hw:(Di L p).isW=false):Ec L N p=N + 16 * p:=by simp [Ec,bs,hw]
theorem I5 {p:Nat} (hw:(Di L p).isW=true):Ec L N p=N + 16 * (L.length + p):=by simp [Ec,bs,hw]
theorem Ai9 {k:LK} (h:k.isA=true):k.isW=false:=by
 cases k with
 | lo o=>cases o <;> simp_all [LK.isA,LK.isW]
 | call=>cases h
 | dyn=>cases h
theorem Hk (hP:Plan M ops L N wm F):∀ p,p≤L.length→∀ id,Af (F.H p) id=true→id < N + 16 * p ∨ N + 16 * L.length≤id
 | 0,_,id,h=>.inl (hP.ids0 id h)
 | p + 1, hp, id, h => by
   have hpp:=hP.all p Aa;by_cases hw:(Di L p).isW=true
   ·cases hx:F.x p with
    | false =>
      rw [(hpp.skip hx).2] at h;rcases Hk hP p Aa id h with h | h
      ·exact .inl Aa
      ·exact .inr h
    | true =>
      obtain ⟨_,_,h3⟩:=hpp.run hx;rw [hw] at h3;rcases L4 h3 id h with h | h
      ·exact .inl Aa
      ·exact .inr h
   ·have hw:(Di L p).isW=false:=by simpa using hw
    rw [VW hP Aa hw] at h;split at h
    ·simp only [V1,beq_iff_eq] at h;rcases h with h | h
     ·rw [Fr hw] at h;exact .inl Aa
     ·rcases Hk hP p Aa id h with h | h
      ·exact .inl Aa
      ·exact .inr h
    ·rcases Hk hP p Aa id h with h | h
     ·exact .inl Aa
     ·exact .inr h
theorem K2:∀ {p:Nat} {q:Nat × Nat × V},q ∈ Cg L N F p→∃ j,j < p∧(Di L j).isA=true∧F.x j=true∧q=(j,Ec L N j,hget (F.H (j + 1)) (Ec L N j))
 | 0,q,h=>by simp [Cg] at h
 | p + 1, q, h => by
   simp only [Cg] at h;cases hc:(Di L p).isA && F.x p with
   | true =>
     rw [hc,cond_true,List.mem_cons] at h;simp only [Bool.and_eq_true] at hc;rcases h with rfl | h
     ·exact ⟨p,by omega,hc.1,hc.2,rfl⟩
     ·obtain ⟨j,h1,h2⟩:=K2 h;exact ⟨j,by omega,h2⟩
   | false =>
     rw [hc,cond_false] at h;obtain ⟨j,h1,h2⟩:=K2 h;exact ⟨j,by omega,h2⟩
theorem LE {q:Nat × Hp}:∀ {p p':Nat},p≤p'→q ∈ CU L F p→q ∈ CU L F p'
 | p, 0, h, hq => by have : p = 0 := by omega
                     subst this;exact hq
 | p, p' + 1, h, hq => by
   by_cases he:p=p' + 1
   ·subst he;exact hq
   ·have:=LE (by omega:p≤p') hq;simp only [CU];cases (Di L p').isW <;> simp [this]
structure DSt (M:Seat) (L:List DOp) (N:Nat) (F:Pl) (c:Ctx) (n:Nat) (S:Array Bool) (a:Act) (P:Nat) (e:Env) (Hc:Hp):Prop where
 sz:S.size=n
 cl:∀ p,p < L.length→lst L S p→∀ j,(BX L p).testBit j=true→lst L S j
 pre:∀ p,p < P→lst L S p
 now:∀ p,P≤p→p < L.length→(Di L p).isW=true→¬ lst L S p
 Pm:P≤L.length
 bd:(P,F.H P) ∈ CU L F P
 inv:Inv M c e Hc
 sub:Sub (F.H P) Hc
 al:∀ p,P≤p→p < L.length→lst L S p→(Di L p).isA=true→F.x p=true→Af Hc (Ec L N p)=true∧hget Hc (Ec L N p)=hget (F.H (p + 1)) (Ec L N p)
 len:a.tmps.size=(F.A 0).length
 va:∀ p,p < L.length→lst L S p→∀ t,IU L p=some t→t < (F.A 0).length→RV e (F.v p) (a.tmps.getD t undef)
 vb:∀ t,(∀ p,p < L.length→lst L S p→IU L p ≠ some t)→RV e ((F.A 0).getD t .junk) (a.tmps.getD t undef)
 ids:∀ id,e.D id→id < N ∨ ∃ p,p < L.length∧lst L S p∧Ec L N p≤id∧id < Ec L N p + 16
 defs:a.defers=[]
 kN:c.k≤N
theorem QI (hP:Plan M ops L N wm F) {n:Nat} {S:Array Bool} {a:Act} {P:Nat} {e:Env} {Hc:Hp} (h:DSt M L N F c n S a P e Hc) :
 ∀ q,P≤q→q≤L.length→(∀ j,P≤j→j < q→lst L S j)→Sub (F.H q) Hc:=by
 intro q;induction q with
 | zero => intro h1 _ _; have : P = 0 := by omega
           subst this;exact h.sub
 | succ q ih =>
   intro h1 h2 h3;by_cases hPq:P=q + 1
   ·subst hPq;exact h.sub
   ·have hs:=ih Aa Aa (fun j hj hjq=>h3 j hj Aa);have hl:=h3 q Aa Aa;have hw:(Di L q).isW=false:=by
     cases hw:(Di L q).isW with
     | false=>rfl
     | true=>exact absurd hl (h.now q Aa Aa hw)
    rw [VW hP Aa hw];split
    ·rename_i hx;obtain ⟨k1,k2⟩:=h.al q Aa Aa hl hx.1 hx.2;intro id hid;simp only [Af,hget] at hid ⊢;by_cases he:Ec L N q=id
     ·subst he;simp only [if_true];exact ⟨k1,k2⟩
     ·rw [if_neg he];simp only [Bool.or_eq_true,beq_iff_eq,he,false_or] at hid;exact hs id hid
    ·exact hs
theorem Pv {E Hc:Hp} (h:Sub E Hc):∀ (l:Hp),(∀ q ∈ l,Af Hc q.1=true∧hget Hc q.1=q.2)→Sub (l ++ E) Hc
 | [],_=>h
 | (i, v) :: l, hl => by
   have ih:=Pv h l (fun q hq=>hl q (by simp [hq]));intro id hid;simp only [List.cons_append,Af,hget] at hid ⊢;by_cases he:i=id
   ·subst he;simp only [if_true];exact hl (i,v) BF
   ·rw [if_neg he];simp only [Bool.or_eq_true,beq_iff_eq,he,false_or] at hid;exact ih id hid
theorem Ais {n:Nat} {S:Array Bool} {a:Act} {P:Nat} {e:Env} {Hc:Hp} (h:DSt M L N F c n S a P e Hc) {p:Nat} (hp:p < L.length) (hbf:∀ j,(BX L p).testBit j=true→lst L S j) :
 Sub (hx (Cg L N F p) P (BX L p) (F.H P)) Hc:=by
 refine Pv h.sub _ (fun q hq=>?_);rw [List.mem_map] at hq;obtain ⟨q',hq',rfl⟩:=hq;rw [List.mem_filter] at hq';obtain ⟨h1,h2⟩:=hq';obtain ⟨j,k1,k2,k3,rfl⟩:=K2 h1;simp only [Bool.and_eq_true,decide_eq_true_eq] at h2;exact h.al j h2.1 Aa (hbf j h2.2) k2 k3
theorem L9 {A:List V} {b:Nat} {o:LO} {v:V} {wm bf:Nat} {al:List (Nat × Nat × V)} {P:Nat} {E:Hp}:∀ {bd:List (Nat × Hp)},Gg A b o v wm bf al bd→(P,E) ∈ bd→(bf &&& wm) >>> P=0 →
 (Ag A (hx al P bf E) b o).pre∧(Ag A (hx al P bf E) b o).v=v
 | [],_,h,_=>by simp at h
 | (P', E') :: r, h, hm, hz => by
   simp only [Gg] at h;rcases List.mem_cons.1 hm with he | hm
   ·cases he;have:((bf &&& wm) >>> P == 0)=true:=by simp [hz]
    rw [this,cond_true] at h;exact h.1
   ·exact L9 h.2 hm hz
end
end Mv
namespace Mv
open Go
section
variable {M:Seat} {ops:Array Oper} {L:List DOp} {N wm:Nat} {F:Pl} {c:Ctx}
theorem Gf {S:Array Bool} {i q:Nat} (h:lst L S q):lst L (S.setIfInBounds i true) q:=by
 unfold lst at *
 by_cases hi:i=D9 L q
 ·subst hi;by_cases hl:D9 L q < S.size
  ·simp [hl]
  ·simp [hl] at h
 ·simpa [Array.getElem?_setIfInBounds_ne hi] using h
theorem Akd (hD:DFacts M ops L) {p q:Nat} (hp:p < L.length) (hq:q < L.length) (h:D9 L p=D9 L q):p=q:=by
 obtain ⟨o,ho⟩:=hD.at' p hp;obtain ⟨o',ho'⟩:=hD.at' q hq;rw [← ho.pos,← ho'.pos];exact congrArg _ h
theorem Afv (hD:DFacts M ops L) {p:Nat} (hp:p < L.length):D9 L p < ops.size:=by
 obtain ⟨o,ho⟩:=hD.at' p hp;exact (Array.getElem?_eq_some_iff.1 ho.op).1
theorem Aah (hD:DFacts M ops L) {S:Array Bool} {p q:Nat} (hp:p < L.length) (hq:q < L.length) (h:lst L (S.setIfInBounds (D9 L p) true) q):lst L S q ∨ q=p:=by
 by_cases hpq:q=p
 ·exact .inr hpq
 ·left;unfold lst at *
  have hne:D9 L p ≠ D9 L q:=fun he=>hpq (Akd hD hq hp he.symm);simpa [Array.getElem?_setIfInBounds_ne hne] using h
theorem Acw (hD:DFacts M ops L) {S:Array Bool} (hS:S.size=ops.size) {p:Nat} (hp:p < L.length):lst L (S.setIfInBounds (D9 L p) true) p:=by
 have:=Afv hD hp;unfold lst;simp [hS,this]
theorem fin (hP:Plan M ops L N wm F) {S:Array Bool} {a:Act} {P:Nat} {e:Env} {Hc:Hp} (h:DSt M L N F c ops.size S a P e Hc) {p:Nat} (hp:p < L.length) (hbf:∀ j,(BX L p).testBit j=true→lst L S j)
 {e':Env} (hle:e.le e') (hD:∀ id,e'.D id→e.D id ∨ (Ec L N p≤id∧id < Ec L N p + 16)) {x:Value} (hx:RV e' (F.v p) x) {P':Nat} {Hc':Hp}
 (hPm:P'≤L.length) (hpre:∀ q,q < P'→lst L S q ∨ q=p) (hnow:∀ q,P'≤q→q < L.length→(Di L q).isW=true→¬ lst L S q∧q ≠ p) (hbd:(P',F.H P') ∈ CU L F P') (hinv:Inv M c e' Hc') (hsub:Sub (F.H P') Hc')
 (hal:∀ q,P'≤q→q < L.length→(lst L S q ∨ q=p)→(Di L q).isA=true→F.x q=true→Af Hc' (Ec L N q)=true∧hget Hc' (Ec L N q)=hget (F.H (q + 1)) (Ec L N q)) :
 DSt M L N F c ops.size (S.setIfInBounds (D9 L p) true) (a.put (IU L p) x) P' e' Hc':=by
 have BC:∀ {q},q < L.length→lst L (S.setIfInBounds (D9 L p) true) q→lst L S q ∨ q=p:=fun hq hl=>Aah hP.D hp hq hl;have hnowp:=Acw hP.D h.sz hp;refine ⟨by simpa using h.sz,?_,?_,?_,hPm,hbd,hinv,hsub,?_,?_,?_,?_,?_,?_,h.kN⟩
 ·intro q hq hl j hj;rcases BC hq hl with hl | rfl
  ·exact Gf (h.cl q hq hl j hj)
  ·exact Gf (hbf j hj)
 ·intro q hq;rcases hpre q hq with hl | rfl
  ·exact Gf hl
  ·exact hnowp
 ·intro q h1 h2 h3 h4;obtain ⟨k1,k2⟩:=hnow q h1 h2 h3;rcases BC h2 h4 with hl | rfl
  ·exact k1 hl
  ·exact k2 rfl
 ·intro q h1 h2 h3;exact hal q h1 h2 (BC h2 h3)
 ·have:=h.len;cases hd:IU L p with
  | none=>simpa [Act.put] using this
  | some i=>simpa [Act.put] using this
 ·intro q hq hl t ht htl;rw [O8];by_cases hpd:IU L p=some t
  ·have:q=p:=hP.D.uni q p t hq hp ht hpd;subst this;rw [if_pos ⟨hpd,by rw [h.len];exact htl⟩];exact hx
  ·rw [if_neg (fun hc=>hpd hc.1)];rcases BC hq hl with hl | rfl
   ·exact HH hle (h.va q hq hl t ht htl)
   ·exact absurd ht hpd
 ·intro t ht;rw [O8,if_neg (fun hc=>ht p hp hnowp hc.1)];exact HH hle (h.vb t (fun q hq hl=>ht q hq (Gf hl)))
 ·intro id hid;rcases hD id hid with hd | hd
  ·rcases h.ids id hd with h1 | ⟨q,h1,h2,h3⟩
   ·exact .inl h1
   ·exact .inr ⟨q,h1,Gf h2,h3⟩
  ·exact .inr ⟨p,hp,hnowp,hd⟩
 ·cases IU L p <;> exact h.defs
theorem TR {A B:List V} {H:Hp} {b:Nat} {k:LK} {C:V→Hp→Prop} (h:∀ t ∈ k.ts,A.getD t .junk=B.getD t .junk) (ho:Dy M A H b k C):Dy M B H b k C:=by
 unfold Dy at *
 cases k with
 | lo o=>simp only at ho ⊢;rw [← Hf H b o h];exact ho
 | call f xs=>simp only at ho ⊢;rw [← Iq xs h];exact ho
 | dyn x xs =>
   simp only at ho ⊢;have hx:x.ev A=x.ev B:=Ba fun t ht=>h t (by simp [LK.ts,ht]);rw [← hx,← Iq xs (fun t ht=>h t (by simp [LK.ts,ht]))];exact ho
theorem KB {S:Array Bool} {a:Act} {P:Nat} {e:Env} {Hc:Hp} (h:DSt M L N F c ops.size S a P e Hc) {p:Nat} (hp:p < L.length) (hnl:¬ lst L S p):¬ e.D (Ec L N p):=by
 intro hd;rcases h.ids _ hd with h1 | ⟨q,h1,h2,h3,h4⟩
 ·cases hw:(Di L p).isW with
  | true=>rw [I5 hw] at h1;omega
  | false=>rw [Fr hw] at h1;omega
 ·have hqp:q ≠ p:=by rintro rfl;exact hnl h2
  cases hw:(Di L p).isW <;> cases hw':(Di L q).isW
  ·rw [Fr hw,Fr hw'] at *;omega
  ·rw [Fr hw,I5 hw'] at *;omega
  ·rw [I5 hw,Fr hw'] at *;omega
  ·rw [I5 hw,I5 hw'] at *;omega
theorem Acl {S:Array Bool} {a:Act} {P:Nat} {e:Env} {Hc:Hp} (h:DSt M L N F c ops.size S a P e Hc) {p:Nat} (hPp:P≤p) (hw:(Di L p).isW=true):∀ id,Ec L N p≤id→¬ e.D id:=by
 intro id hid hd;rw [I5 hw] at hid;rcases h.ids _ hd with h1 | ⟨q,h1,h2,h3,h4⟩
 ·omega
 ·cases hw':(Di L q).isW with
  | true =>
    have:q < P:=Nat.lt_of_not_le (fun hle=>h.now q hle h1 hw' h2);rw [I5 hw'] at h4;omega
  | false =>
    rw [Fr hw'] at h4;omega
theorem Wo (hP:Plan M ops L N wm F) {S:Array Bool} {a:Act} {P:Nat} {e:Env} {Hc:Hp} (h:DSt M L N F c ops.size S a P e Hc) {p:Nat} (hp:p < L.length) (hnl:¬ lst L S p) (hbf:∀ j,(BX L p).testBit j=true→lst L S j) :
 ∀ t ∈ (GT L p).ts,RV e ((F.A p).getD t .junk) (a.tmps.getD t undef):=by
 intro t ht;obtain ⟨o,ho⟩:=hP.D.at' p hp;by_cases htl:t < (F.A 0).length
 ·by_cases hex:∃ j,j < L.length∧lst L S j∧IU L j=some t
  ·obtain ⟨j,hj,hl,hd⟩:=hex;rcases ho.ts t ht j hj hd with hb | ⟨_,hb⟩ | rfl
   ·have hjp:=Af4 hP.D p p (Nat.le_refl p) hp j hb;rw [Atl hP hd htl p Aa hjp];exact h.va j hj hl t hd htl
   ·exact absurd (h.cl j hj hl p hb) hnl
   ·exact absurd hl hnl
  ·rw [Qd hP p Aa ?_]
   ·exact h.vb t (fun q hq hl hd=>hex ⟨q,hq,hl,hd⟩)
   ·intro j hj hd;rcases ho.ts t ht j Aa hd with hb | ⟨hb,_⟩ | hb
    ·exact hex ⟨j,by omega,hbf j hb,hd⟩
    ·omega
    ·omega
 ·have:(F.A p).getD t .junk = .junk:=by
   rw [List.getD_eq_getElem?_getD,List.getElem?_eq_none (by rw [E5 hP p Aa];omega)];rfl
  rw [this];trivial
def Iu (A:List V) (ts:List Nat):List V:=(List.range A.length).map (fun t=>if t ∈ ts then A.getD t .junk else .junk)
theorem OL (A:List V) (ts:List Nat) (t:Nat):(Iu A ts).getD t .junk=if t ∈ ts then A.getD t .junk else .junk:=by
 unfold Iu;by_cases h:t < A.length
 ·simp [List.getD,List.getElem?_map,List.getElem?_range h]
 ·have e1:((List.range A.length).map (fun t=>if t ∈ ts then A.getD t .junk else V.junk)).getD t .junk = .junk:=by
   rw [List.getD_eq_getElem?_getD,List.getElem?_eq_none V0];rfl
  have e2:A.getD t .junk = .junk:=by rw [List.getD_eq_getElem?_getD,List.getElem?_eq_none Aa];rfl
  rw [e1,e2];split <;> rfl
theorem Ahm (hP:Plan M ops L N wm F) (hwm:∀ j,wm.testBit j=true→(Di L j).isW=true) {S:Array Bool} {a:Act} {P:Nat} {e:Env} {Hc:Hp} (h:DSt M L N F c ops.size S a P e Hc) {p:Nat} (hp:p < L.length) (hnl:¬ lst L S p)
 (hbf:∀ j,(BX L p).testBit j=true→lst L S j) {Q:Exit→Act→World→Prop} {next:Act→World→Prop}
 (hnext:∀ a' P' e' Hc',DSt M L N F c ops.size (S.setIfInBounds (D9 L p) true) a' P' e' Hc'→next a' e'.w):wpOp M.P ops Q (D9 L p) next a e.w:=by
 obtain ⟨o,ho⟩:=hP.D.at' p hp;have hpa:=hP.all p hp;have hPp:P≤p:=Nat.le_of_not_lt (fun hlt=>hnl (h.pre p hlt));have hframe:=Wo hP h hp hnl hbf;have hop:ops[D9 L p]?=some o:=ho.op;have hwfalse:(Di L p).isW=true→∀ q,P≤q→q < p→lst L S q:=fun hw q _ hq=>hbf q (ho.w hw q hq);have hskip:F.x p=false→next (a.put (IU L p) undef) e.w:=by
  intro hx;obtain ⟨hv,hH⟩:=hpa.skip hx;have hRV:RV e (F.v p) undef:=by rw [hv];exact ⟨#[],rfl,trivial⟩
  by_cases hw:(Di L p).isW=true
  ·refine hnext _ (p + 1) e Hc (fin hP h hp hbf (Env.le_refl e) (fun id hid=>.inl hid) hRV Aa (fun q hq=>?_) (fun q h1 h2 h3=>⟨h.now q Aa h2 h3,by omega⟩) (by simp [CU,hw]) h.inv ?_ ?_)
   ·by_cases hqP:q < P
    ·exact .inl (h.pre q hqP)
    ·by_cases hqp:q=p
     ·exact .inr hqp
     ·exact .inl (hwfalse hw q Aa Aa)
   ·rw [hH];exact QI hP h p hPp Aa (fun j h1 h2=>hwfalse hw j h1 h2)
   ·intro q h1 h2 h3 h4 h5;rcases h3 with h3 | rfl
    ·exact h.al q Aa h2 h3 h4 h5
    ·omega
  ·refine hnext _ P e Hc (fin hP h hp hbf (Env.le_refl e) (fun id hid=>.inl hid) hRV h.Pm (fun q hq=>.inl (h.pre q hq)) (fun q h1 h2 h3=>⟨h.now q h1 h2 h3,by rintro rfl;exact hw h3⟩) h.bd h.inv h.sub ?_);intro q h1 h2 h3 h4 h5;rcases h3 with h3 | rfl
   ·exact h.al q h1 h2 h3 h4 h5
   ·rw [hx] at h5;cases h5
 have hdo:F.x p=true→o.wp M.P a e.w next Q:=by
  intro hx;obtain ⟨hrun,hepk,hids⟩:=hpa.run hx;have hB:FR e (Iu (F.A p) (Di L p).ts) a.tmps:=by
   refine ⟨by rw [h.len,Iu,List.length_map,List.length_range,E5 hP p Aa],fun t=>?_⟩;rw [OL];split
   ·rename_i ht;exact hframe t (by unfold LOp.ts;exact List.mem_append_right _ ht)
   ·trivial
  have hmask:∀ t ∈ (Di L p).ts,(F.A p).getD t .junk=(Iu (F.A p) (Di L p).ts).getD t .junk:=fun t ht=>by rw [OL,if_pos ht]
  by_cases hw:(Di L p).isW=true
  ·have hsub:=QI hP h p hPp Aa (fun j h1 h2=>hwfalse hw j h1 h2);have hrun':=TR hmask hrun;refine QB (c:=⟨e,fun b=>∃ id,Af (F.H p) id=true∧e.ρ id=b,c.k⟩) (H:=F.H p) (n:=Ec L N p) (K:=fun v H'=>v=F.v p∧H'=F.H (p + 1)) (h.inv.narrow hsub) hB (KB h hp hnl) (fun _=>Acl h hPp hw) (by have:=h.kN;show c.k≤_;unfold Ec bs;split <;> omega) ho.dst ho.k ?_ ?_
   ·rintro v x H' e' hI' hv hle hD' ⟨rfl,rfl⟩;obtain ⟨w1,w2⟩:=h.inv.widen hsub hle hI';refine hnext _ (p + 1) e' (F.H (p + 1) ++ Dw Hc (F.H p)) (fin hP h hp hbf hle hD' hv Aa (fun q hq=>?_) (fun q h1 h2 h3=>⟨h.now q Aa h2 h3,by omega⟩) (by simp [CU,hw]) w1 ?_ ?_)
    ·by_cases hqP:q < P
     ·exact .inl (h.pre q hqP)
     ·by_cases hqp:q=p
      ·exact .inr hqp
      ·exact .inl (hwfalse hw q Aa Aa)
    ·intro id hid;exact ⟨by rw [DU,hid];rfl,Fi hid⟩
    ·intro q h1 h2 h3 h4 h5;rcases h3 with h3 | rfl
     ·obtain ⟨k1,k2⟩:=h.al q Aa h2 h3 h4 h5;have hno:Af (F.H p) (Ec L N q)=false:=by
       cases hh:Af (F.H p) (Ec L N q) with
       | false=>rfl
       | true =>
         have:=Hk hP p Aa _ hh;rw [Fr (Ai9 h4)] at this;omega
      have hno':=w2 _ k1 hno;rw [DU,EZ hno',Eo,Ej _ _ hno,k1,hno,k2];simp
     ·omega
   ·unfold OpK Dy at *
    cases hk:Di L p with
    | lo lo=>rw [hk] at hrun';rw [show Ec L N p=bs N L.length p (.lo lo) by rw [Ec,hk]];exact hrun'
    | call f xs =>
      rw [hk] at hrun';obtain ⟨v,H',h1,rfl,rfl⟩:=hrun';rw [show Ec L N p=bs N L.length p (.call f xs) by rw [Ec,hk]];exact h1
    | dyn y xs =>
      rw [hk] at hrun';obtain ⟨v,H',h1,rfl,rfl⟩:=hrun';rw [show Ec L N p=bs N L.length p (.dyn y xs) by rw [Ec,hk]];exact h1
  ·have hw:(Di L p).isW=false:=by simpa using hw
   have hsub:=Ais h hp hbf;cases hk:Di L p with
   | call f xs=>rw [hk] at hw;cases hw
   | dyn y xs=>rw [hk] at hw;cases hw
   | lo lo =>
   have hbz:(BX L p &&& wm) >>> P=0:=by
    apply Nat.eq_of_testBit_eq;intro i;rw [Nat.testBit_shiftRight,Nat.testBit_and,Nat.zero_testBit];cases h1:(BX L p).testBit (P + i) with
    | false=>rfl
    | true =>
      cases h2:wm.testBit (P + i) with
      | false=>rfl
      | true =>
        have hlt:=Af4 hP.D p p (Nat.le_refl p) hp _ h1;exact absurd (hbf _ h1) (h.now (P + i) Aa Aa (hwm _ h2))
   have hb:Ec L N p=bs N L.length p (.lo lo):=by rw [Ec,hk]
   have hpre:(Ag (F.A p) (Mv.hx (Cg L N F p) P (BX L p) (F.H P)) (Ec L N p) lo).pre∧(Ag (F.A p) (Mv.hx (Cg L N F p) P (BX L p) (F.H P)) (Ec L N p) lo).v=F.v p:=by
    rw [hk] at hrun hepk;obtain ⟨k1,k2,_⟩:=hrun;rw [hb];by_cases hpure:LK.isP (.lo lo)=true
    ·obtain ⟨q1,q2⟩:=TH (F.A p) (Mv.hx (Cg L N F p) P (BX L p) (F.H P)) (F.H p) (bs N L.length p (.lo lo)) lo hpure;rw [q1,q2];exact ⟨k1,k2⟩
    ·simp only [Vy] at hepk;rw [hk] at hw;rw [show LK.isP (.lo lo)=false by simpa using hpure,hw] at hepk;exact L9 hepk (LE hPp h.bd) hbz
   rw [Hf _ _ lo (by rw [hk] at hmask;exact hmask)] at hpre;refine QB (c:=⟨e,fun b=>∃ id,Af (Mv.hx (Cg L N F p) P (BX L p) (F.H P)) id=true∧e.ρ id=b,c.k⟩) (H:=Mv.hx (Cg L N F p) P (BX L p) (F.H P)) (n:=Ec L N p) (k:=.lo lo)
    (K:=fun v H'=>v=F.v p∧H'=(Ag (Iu (F.A p) (LK.lo lo).ts) (Mv.hx (Cg L N F p) P (BX L p) (F.H P)) (Ec L N p) lo).H) (h.inv.narrow hsub) (by rw [hk] at hB;exact hB) (KB h hp hnl) (fun hne=>absurd rfl (hne lo)) (by have:=h.kN;show c.k≤_;unfold Ec bs;split <;> omega) ho.dst (by rw [← hk];exact ho.k) ?_ ⟨hpre.1,hpre.2,rfl⟩
   rintro v x H' e' hI' hv hle hD' ⟨rfl,hH'⟩;obtain ⟨w1,w2⟩:=h.inv.widen hsub hle hI';have hfresh:=KB h hp hnl;have hHcb:Af Hc (Ec L N p)=false:=by
    cases hh:Af Hc (Ec L N p) with
    | false=>rfl
    | true=>exact absurd (h.inv.blk _ hh).1 hfresh
   have hwl:LK.isW (.lo lo)=false:=by rw [← hk];exact hw
   have hkeep:∀ id,Af Hc id=true→Af (H' ++ Dw Hc (Mv.hx (Cg L N F p) P (BX L p) (F.H P))) id=true∧hget (H' ++ Dw Hc (Mv.hx (Cg L N F p) P (BX L p) (F.H P))) id=hget Hc id:=by
    intro id hid;have hidb:Ec L N p ≠ id:=fun he=>by rw [← he,hHcb] at hid;cases hid
    have hH2:Af H' id=Af (Mv.hx (Cg L N F p) P (BX L p) (F.H P)) id∧(Af (Mv.hx (Cg L N F p) P (BX L p) (F.H P)) id=true→hget H' id=hget (Mv.hx (Cg L N F p) P (BX L p) (F.H P)) id):=by
     rw [hH'];by_cases hA:LK.isA (.lo lo)=true
     ·obtain ⟨cc,hc⟩:=Rr (Iu (F.A p) (LK.lo lo).ts) (Ec L N p) lo hA ⟨_,hpre.1⟩;rw [hc];simp [Af,hget,hidb]
     ·rw [V9 _ _ _ _ hwl (by simpa using hA)];exact ⟨rfl,fun _=>rfl⟩
    cases hh:Af (Mv.hx (Cg L N F p) P (BX L p) (F.H P)) id with
    | true =>
      have h1:Af H' id=true:=hH2.1.trans hh;refine ⟨by rw [DU,h1];rfl,?_⟩;rw [Fi h1,hH2.2 hh,(hsub id hh).2]
    | false =>
      have h1:Af H' id=false:=hH2.1.trans hh;refine ⟨by rw [DU,h1,Eo,hid,hh];rfl,?_⟩;rw [EZ h1,Ej _ _ hh]
   refine hnext _ P e' (H' ++ Dw Hc (Mv.hx (Cg L N F p) P (BX L p) (F.H P))) (fin hP h hp hbf hle hD' hv h.Pm (fun q hq=>.inl (h.pre q hq)) (fun q h1 h2 h3=>⟨h.now q h1 h2 h3,by rintro rfl;rw [hw] at h3;cases h3⟩) h.bd w1 ?_ ?_)
   ·intro id hid;obtain ⟨k1,k2⟩:=h.sub id hid;obtain ⟨q1,q2⟩:=hkeep id k1;exact ⟨q1,q2.trans k2⟩
   ·intro q h1 h2 h3 h4 h5;by_cases hqp:q=p
    ·subst hqp;rw [hk] at h4;obtain ⟨cc,hc⟩:=Rr (Iu (F.A q) (LK.lo lo).ts) (Ec L N q) lo h4 ⟨_,hpre.1⟩;rw [hH',hc];rw [hk] at hrun;obtain ⟨r1,_,r3⟩:=hrun;rw [Hf _ _ lo (by rw [hk] at hmask;exact hmask),← hb,hc] at r3;rw [← r3];simp [Af,hget]
    ·rcases h3 with h3 | h3
     ·obtain ⟨k1,k2⟩:=h.al q h1 h2 h3 h4 h5;obtain ⟨q1,q2⟩:=hkeep _ k1;exact ⟨q1,q2.trans k2⟩
     ·exact absurd h3 hqp
 unfold wpOp;simp only [hop];have hg:=hpa.g;cases hgo:(GT L p).g with
 | none =>
   rw [hgo] at hg;have hgn:o.guard=none:=by
    have:=ho.g;rw [hgo] at this;cases hoo:o.guard with
    | none=>rfl
    | some q=>rw [hoo] at this;simp [NL] at this
   rw [if_pos (by simp [Region.wanted,hgn])];exact .inl (hdo hg)
 | some q =>
   obtain ⟨t,b0⟩:=q;rw [hgo] at hg;simp only at hg;have hcg:=ho.g;rw [hgo] at hcg;have hwant:=Mq hcg a.tmps o rfl;have hvt:=hframe t (by unfold LOp.ts;rw [hgo];simp);have hget:a.tmps.getD t undef=(a.tmps[t]?).getD undef:=BF;cases hA:(F.A p).getD t .junk <;> rw [hA] at hg hvt <;> simp only at hg;case bool b' =>
    have hbv:=Fk hvt;have htv:a.tmps[t]?=some (.bool b'):=by
     rw [hget] at hbv;cases hq:a.tmps[t]? with
     | none=>rw [hq] at hbv;simp [undef] at hbv
     | some y=>rw [hq] at hbv;simp at hbv;rw [hbv]
    rw [htv] at hwant;simp only at hwant;cases hx:F.x p with
    | true =>
      rw [hx] at hg;rw [if_pos (by rw [hwant];exact hg.symm)];exact .inl (hdo hx)
    | false =>
      rw [hx] at hg;rw [if_neg (by rw [hwant,← hg];simp),ho.dst];exact hskip hx
   case tup fs =>
    simp only [RV] at hvt;obtain ⟨xs,hx,_⟩:=hvt;have:Region.wanted o (yielded ops a.tmps)=false:=by
     rw [hwant];split
     ·rename_i b' hq;rw [hget,hq] at hx;simp at hx
     ·rfl
    rw [if_neg (by rw [this];simp),ho.dst];exact hskip hg
def left (n:Nat) (S:Array Bool):Nat:=(List.range n).countP (fun i=>!S.getD i true)
theorem My {p q:Nat→Bool}:∀ (l:List Nat),(∀ i ∈ l,q i=true→p i=true)→(∃ i ∈ l,p i=true∧q i=false)→l.countP q < l.countP p
 | [],_,h=>by obtain ⟨i,h,_⟩:=h;simp at h
 | i :: l, hle, h => by
   have hmono:l.countP q≤l.countP p:=List.countP_mono_left (fun j hj hq=>hle j (by simp [hj]) hq);obtain ⟨j,hj,h1,h2⟩:=h;rcases List.mem_cons.1 hj with rfl | hj
   ·rw [List.countP_cons,List.countP_cons,h1,h2];simp;omega
   ·have ih:=My l (fun j hj hq=>hle j (by simp [hj]) hq) ⟨j,hj,h1,h2⟩;have hi:=hle i BF;rw [List.countP_cons,List.countP_cons];cases hq:q i with
    | true=>rw [hi hq];simp;omega
    | false=>cases hp:p i <;> simp <;> omega
theorem Amh (hP:Plan M ops L N wm F) (hwm:∀ j,wm.testBit j=true→(Di L j).isW=true) {Q:Exit→Act→World→Prop}
 (hend:∀ S a P e Hc,DSt M L N F c ops.size S a P e Hc→(∀ p,p < L.length→lst L S p)→Q .normal a e.w) :
 ∀ (fuel:Nat) (S:Array Bool) (a:Act) (P:Nat) (e:Env) (Hc:Hp),DSt M L N F c ops.size S a P e Hc→left ops.size S≤fuel→wpAny M.P .any ops Q fuel S a e.w:=by
 have hready:∀ (S:Array Bool) (a:Act) (P:Nat) (e:Env) (Hc:Hp),DSt M L N F c ops.size S a P e Hc→Region.ready .any ops S=[]→∀ p,p < L.length→lst L S p:=by
  intro S a P e Hc h hr;have key:∀ n p,p≤n→p < L.length→lst L S p:=by
   intro n;induction n using Nat.strongRecOn with
   | _ n ih =>
     intro p hp hl;obtain ⟨o,ho⟩:=hP.D.at' p hl;have hop:ops[D9 L p]?=some o:=ho.op;have hix:=Afv hP.D hl;cases hn:S.getD (D9 L p) false with
     | true=>exact hn
     | false =>
       have hmem:D9 L p ∈ Region.ready .any ops S:=by
        unfold Region.ready;rw [List.mem_filter];refine ⟨List.mem_range.2 hix,?_⟩;have hsz:=h.sz;have hgt:S.getD (D9 L p) true=false:=by
         have hlt:D9 L p < S.size:=Aa;simp [hlt] at hn ⊢;exact hn
        rw [hgt,hop];simp only [Bool.not_false,Option.map_some,Option.getD_some,Bool.true_and,Array.all_eq_true];intro i hi;have hmem':o.after[i] ∈ o.after.toList:=BF;cases hb:Region.binds .any o.after[i] with
        | false=>simp
        | true =>
          have hlt:=ho.lt _ hmem' hb;have hl':=ih (D7 L o.after[i].on) Aa (D7 L o.after[i].on) (Nat.le_refl _) Aa;unfold lst at hl';have he:D9 L (D7 L o.after[i].on)=o.after[i].on:=J4 Aa;rw [he] at hl';simp only [Bool.not_true,Bool.false_or];exact hl'
       rw [hr] at hmem;simp at hmem
  exact fun p hp=>key p p (Nat.le_refl p) hp
 intro fuel;induction fuel with
 | zero =>
   intro S a P e Hc h hf;have hr:Region.ready .any ops S=[]:=by
    unfold Region.ready;rw [List.filter_eq_nil_iff];intro i hi;have:left ops.size S=0:=Aa;unfold left at this;rw [List.countP_eq_zero] at this;have:=this i hi;simp only [Bool.not_eq_true,Bool.not_eq_false'] at this;rw [this];simp
   exact ⟨hr,hend S a P e Hc h (hready S a P e Hc h hr)⟩
 | succ fuel ih =>
   intro S a P e Hc h hf;refine ⟨fun hr=>hend S a P e Hc h (hready S a P e Hc h hr),fun i hi=>?_⟩;unfold Region.ready at hi;rw [List.mem_filter] at hi;obtain ⟨h1,h2⟩:=hi;have hin:=List.mem_range.1 h1;have hpl:=hP.D.all i hin;obtain ⟨o,ho⟩:=hP.D.at' _ hpl;have hix:D9 L (D7 L i)=i:=J4 hpl;have hop:ops[i]?=some o:=by rw [← hix];exact ho.op
   simp only [X5] at h2;obtain ⟨h2,h3⟩:=h2;rw [hop] at h3;simp only [Option.map_some,Option.getD_some,Array.all_eq_true] at h3;have hsz:=h.sz;have hnl:¬ lst L S (D7 L i):=by
    unfold lst;rw [hix];have hlt:i < S.size:=Aa;simp [hlt] at h2 ⊢;exact h2
   have hedge:∀ e ∈ o.after.toList,Region.binds .any e=true→lst L S (D7 L e.on):=by
    intro e he hb;obtain ⟨k,hk,rfl⟩:=List.mem_iff_getElem.1 he;have:=h3 k (by simpa using hk);have hlt:=ho.lt _ he hb;unfold lst;rw [show D9 L (D7 L (o.after.toList[k]).on)=(o.after.toList[k]).on from J4 Aa];simp only [Array.getElem_toList] at hb ⊢;rw [hb] at this;simpa using this
   have hbf:∀ j,(BX L (D7 L i)).testBit j=true→lst L S j:=by
    intro j hj;obtain ⟨e,he,hb,hh⟩:=ho.bf j hj;have hl:=hedge e he hb;rcases hh with rfl | hh
    ·exact hl
    ·exact h.cl _ (by have:=ho.lt e he hb;omega) hl j hh
   have:=Ahm hP hwm h hpl hnl hbf (Q:=Q) (next:=wpAny M.P .any ops Q fuel (S.setIfInBounds i true)) (fun a' P' e' Hc' h'=>by
    rw [hix] at h';refine ih _ a' P' e' Hc' h' ?_;have hlt:left ops.size (S.setIfInBounds i true) < left ops.size S:=by
     unfold left;refine My _ (fun j hj hq=>?_) ⟨i,h1,?_,?_⟩
     ·have hjl:=List.mem_range.1 hj;by_cases hij:i=j
      ·subst hij;simp [hsz,hin] at hq
      ·have hjs:j < S.size:=Aa;simp [hjs,Array.getElem_setIfInBounds_ne,hij] at hq ⊢;exact hq
     ·rw [h2];rfl
     ·simp [hsz,hin]
    omega)
   rw [hix] at this;exact this
theorem Ur {K:List V→Hp→Prop} {A:List V} {H:Hp} {e:Env} {a:Act} {Q:Exit→Act→World→Prop} (hc:Aaa M ops L=true) (hI:Inv M c e H) (hA:FR e A a.tmps) (hD:∀ id,N≤id→¬ e.D id) (hkN:c.k≤N) (hdef:a.defers=[])
 (hwm:∀ j,wm.testBit j=true→(Di L j).isW=true)
 (hK:∀ A' H' a' e',Inv M c e' H'→FR e' A' a'.tmps→(∀ id,N + 32 * L.length≤id→¬ e'.D id)→a'.defers=[]→K A' H'→Q .normal a' e'.w)
 (h:Cr M K L.length N wm L 0 A H [(0,H)] []):wpAny M.P .any ops Q ops.size (Array.replicate ops.size false) a e.w:=by
 have hDF:=KG hc;obtain ⟨F,hs,hall,hKF⟩:=OX (K:=K) (L:=L) L 0 { A:=fun _=>A,H:=fun _=>H,x:=fun _=>false,v:=fun _=>.junk } (fun i=>by simp) BF (by simpa [CU,Cg] using h);have hA0:F.A 0=A:=hs.A 0 (Nat.le_refl 0);have hH0:F.H 0=H:=hs.H 0 (Nat.le_refl 0)
 have hP:Plan M ops L N wm F:=⟨hDF,fun p hp=>hall p (Nat.zero_le p) hp,fun id hid=>by
  rw [hH0] at hid
  exact Nat.lt_of_not_le (fun hle=>hD id hle (hI.blk id hid).1)⟩
 have hno:∀ p,¬ lst L (Array.replicate ops.size false) p:=fun p hl=>by
  unfold lst at hl;by_cases hlt:D9 L p < ops.size
  ·simp [hlt] at hl
  ·simp [hlt] at hl
 have h0:DSt M L N F c ops.size (Array.replicate ops.size false) a 0 e H:=by
  refine ⟨by simp,fun p _ hl=>absurd hl (hno p),fun p hp=>absurd hp (Nat.not_lt_zero _),fun p _ _ _=>hno p,Nat.zero_le _,by simp [CU],hI,fun id hid=>?_,fun p _ _ hl=>absurd hl (hno p),by rw [hA0];exact hA.len,fun p _ hl=>absurd hl (hno p),fun t _=>by rw [hA0];exact hA.val t,fun id hid=>.inl (Nat.lt_of_not_le (fun hle=>hD id hle hid)),hdef,hkN⟩;rw [hH0] at hid ⊢;exact ⟨hid,rfl⟩
 refine Amh hP hwm (fun S a' P e' Hc hst hl=>?_) ops.size _ a 0 e H h0 (by
  unfold left
  exact Nat.le_trans List.countP_le_length BF)
 have hsub:=QI hP hst L.length hst.Pm (Nat.le_refl _) (fun j _ hj=>hl j hj);refine hK (F.A L.length) (F.H L.length) a' e' (hst.inv.sub hsub) ⟨by rw [hst.len,E5 hP _ (Nat.le_refl _)],fun t=>?_⟩ (fun id hid hd=>?_) hst.defs hKF
 ·by_cases htl:t < (F.A 0).length
  ·by_cases hex:∃ j,j < L.length∧IU L j=some t
   ·obtain ⟨j,hj,hd⟩:=hex;rw [Atl hP hd htl L.length (Nat.le_refl _) hj];exact hst.va j hj (hl j hj) t hd htl
   ·rw [Qd hP L.length (Nat.le_refl _) (fun j hj hd=>hex ⟨j,hj,hd⟩)];exact hst.vb t (fun q hq _ hd=>hex ⟨q,hq,hd⟩)
  ·have:(F.A L.length).getD t .junk = .junk:=by
    rw [List.getD_eq_getElem?_getD,List.getElem?_eq_none (by rw [E5 hP _ (Nat.le_refl _)];omega)];rfl
   rw [this];trivial
 ·rcases hst.ids id hd with h1 | ⟨q,h1,_,_,h4⟩
  ·omega
  ·cases hw:(Di L q).isW with
   | true=>rw [I5 hw] at h4;omega
   | false=>rw [Fr hw] at h4;omega
def GD:List DOp→Nat→Nat
 | [],_=>0
 | d :: r,p=>(if d.o.k.isW then 2 ^ p else 0) ||| GD r (p + 1)
theorem Mg:∀ (L:List DOp) (p j:Nat),(GD L p).testBit j=true→p≤j∧(Di L (j - p)).isW=true
 | [],_,_,h=>by simp [GD] at h
 | d :: r, p, j, h => by
   simp only [GD,Nat.testBit_or,Bool.or_eq_true] at h;rcases h with h | h
   ·split at h
    ·rename_i hw;rw [Nat.testBit_two_pow] at h;have:p=j:=V0;subst this;exact ⟨Nat.le_refl _,by simpa [Di,GT] using hw⟩
    ·simp at h
   ·obtain ⟨h1,h2⟩:=Mg r (p + 1) j h;refine ⟨by omega,?_⟩;have e1:j - p=(j - (p + 1)) + 1:=Aa;rw [e1];simpa [Di,GT] using h2
end
end Mv
