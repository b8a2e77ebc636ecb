/- A part. -/
import Derived.Test.YtlfkjfonpacelaaGreatDoorIJ
set_option linter.all false
namespace Mv
open Go
section
variable {M:Seat} {ops:Array Oper} {L:List DOp} {N wm:Nat} {F:Pl} {c:Ctx}
theorem G8 {S:Array Bool} {i q:Nat} (h:lst L S q):lst L (S.setIfInBounds i true) q:=by
 unfold lst at *
 by_cases hi:i=Ez L q
 ·subst hi;by_cases hl:Ez L q < S.size
  ·simp [hl]
  ·simp [hl] at h
 ·simpa [Array.getElem?_setIfInBounds_ne hi] using h
theorem Aja (hD:DFacts M ops L) {p q:Nat} (hp:p < L.length) (hq:q < L.length) (h:Ez L p=Ez L q):p=q:=by
 obtain ⟨o,ho⟩:=hD.at' p hp;obtain ⟨o',ho'⟩:=hD.at' q hq;rw [← ho.pos,← ho'.pos];exact congrArg _ h
theorem Aii (hD:DFacts M ops L) {p:Nat} (hp:p < L.length):Ez L p < ops.size:=by
 obtain ⟨o,ho⟩:=hD.at' p hp;exact (Array.getElem?_eq_some_iff.1 ho.op).1
theorem Ag5 (hD:DFacts M ops L) {S:Array Bool} {p q:Nat} (hp:p < L.length) (hq:q < L.length) (h:lst L (S.setIfInBounds (Ez L p) true) q):lst L S q ∨ q=p:=by
 by_cases hpq:q=p
 ·exact .inr hpq
 ·left;unfold lst at *
  have hne:Ez L p ≠ Ez L q:=fun he=>hpq (Aja hD hq hp he.symm);simpa [Array.getElem?_setIfInBounds_ne hne] using h
theorem Ahm (hD:DFacts M ops L) {S:Array Bool} (hS:S.size=ops.size) {p:Nat} (hp:p < L.length):lst L (S.setIfInBounds (Ez L p) true) p:=by
 have:=Aii hD hp;unfold lst;simp [hS,this]
theorem fin (hP:Plan M ops L N wm F) {S:Array Bool} {a:Act} {P:Nat} {e:Env} {Hc:Hp} (h:DSt M L N F c ops.size S a P e Hc) {p:Nat} (hp:p < L.length) (hbf:∀ j,(CL L p).testBit j=true→lst L S j)
 {e':Env} (hle:e.le e') (hD:∀ id,e'.D id→e.D id ∨ (Fc L N p≤id∧id < Fc L N p + 16)) {x:Value} (hx:RV e' (F.v p) x) {P':Nat} {Hc':Hp}
 (hPm:P'≤L.length) (hpre:∀ q,q < P'→lst L S q ∨ q=p) (hnow:∀ q,P'≤q→q < L.length→(DW L q).isW=true→¬ lst L S q∧q ≠ p) (hbd:(P',F.H P') ∈ DH L F P') (hinv:Inv M c e' Hc') (hsub:Sub (F.H P') Hc')
 (hal:∀ q,P'≤q→q < L.length→(lst L S q ∨ q=p)→(DW L q).isA=true→F.x q=true→Ag Hc' (Fc L N q)=true∧hget Hc' (Fc L N q)=hget (F.H (q + 1)) (Fc L N q)) :
 DSt M L N F c ops.size (S.setIfInBounds (Ez L p) true) (a.put (Ke L p) x) P' e' Hc':=by
 have CA:∀ {q},q < L.length→lst L (S.setIfInBounds (Ez L p) true) q→lst L S q ∨ q=p:=fun hq hl=>Ag5 hP.D hp hq hl;have hnowp:=Ahm hP.D h.sz hp;refine ⟨by simpa using h.sz,?_,?_,?_,hPm,hbd,hinv,hsub,?_,?_,?_,?_,?_,?_⟩
 ·intro q hq hl j hj;rcases CA hq hl with hl | rfl
  ·exact G8 (h.cl q hq hl j hj)
  ·exact G8 (hbf j hj)
 ·intro q hq;rcases hpre q hq with hl | rfl
  ·exact G8 hl
  ·exact hnowp
 ·intro q h1 h2 h3 h4;obtain ⟨k1,k2⟩:=hnow q h1 h2 h3;rcases CA h2 h4 with hl | rfl
  ·exact k1 hl
  ·exact k2 rfl
 ·intro q h1 h2 h3;exact hal q h1 h2 (CA h2 h3)
 ·have:=h.len;cases hd:Ke L p with
  | none=>simpa [Act.put] using this
  | some i=>simpa [Act.put] using this
 ·intro q hq hl t ht htl;rw [QK];by_cases hpd:Ke L p=some t
  ·have:q=p:=hP.D.uni q p t hq hp ht hpd;subst this;rw [if_pos ⟨hpd,by rw [h.len];exact htl⟩];exact hx
  ·rw [if_neg (fun hc=>hpd hc.1)];rcases CA hq hl with hl | rfl
   ·exact Ic hle (h.va q hq hl t ht htl)
   ·exact absurd ht hpd
 ·intro t ht;rw [QK,if_neg (fun hc=>ht p hp hnowp hc.1)];exact Ic hle (h.vb t (fun q hq hl=>ht q hq (G8 hl)))
 ·intro id hid;rcases hD id hid with hd | hd
  ·rcases h.ids id hd with h1 | ⟨q,h1,h2,h3⟩
   ·exact .inl h1
   ·exact .inr ⟨q,h1,G8 h2,h3⟩
  ·exact .inr ⟨p,hp,hnowp,hd⟩
 ·cases Ke L p <;> exact h.defs
theorem V5 {A B:List V} {H:Hp} {b:Nat} {k:LK} {C:V→Hp→Prop} (h:∀ t ∈ k.ts,A.getD t .junk=B.getD t .junk) (ho:Br M A H b k C):Br M B H b k C:=by
 unfold Br at *
 cases k with
 | lo o=>simp only at ho ⊢;rw [← HN H b o h];exact ho
 | call f xs=>simp only at ho ⊢;rw [← Jj xs h];exact ho
 | dyn x xs =>
   simp only at ho ⊢;have hx:x.ev A=x.ev B:=Bq fun t ht=>h t (by simp [LK.ts,ht]);rw [← hx,← Jj xs (fun t ht=>h t (by simp [LK.ts,ht]))];exact ho
theorem MC {S:Array Bool} {a:Act} {P:Nat} {e:Env} {Hc:Hp} (h:DSt M L N F c ops.size S a P e Hc) {p:Nat} (hp:p < L.length) (hnl:¬ lst L S p):¬ e.D (Fc L N p):=by
 intro hd;rcases h.ids _ hd with h1 | ⟨q,h1,h2,h3,h4⟩
 ·cases hw:(DW L p).isW with
  | true=>rw [JK hw] at h1;omega
  | false=>rw [FE hw] at h1;omega
 ·have hqp:q ≠ p:=by rintro rfl;exact hnl h2
  cases hw:(DW L p).isW <;> cases hw':(DW L q).isW
  ·rw [FE hw,FE hw'] at *;omega
  ·rw [FE hw,JK hw'] at *;omega
  ·rw [JK hw,FE hw'] at *;omega
  ·rw [JK hw,JK hw'] at *;omega
theorem Aek {S:Array Bool} {a:Act} {P:Nat} {e:Env} {Hc:Hp} (h:DSt M L N F c ops.size S a P e Hc) {p:Nat} (hPp:P≤p) (hw:(DW L p).isW=true):∀ id,Fc L N p≤id→¬ e.D id:=by
 intro id hid hd;rw [JK hw] at hid;rcases h.ids _ hd with h1 | ⟨q,h1,h2,h3,h4⟩
 ·omega
 ·cases hw':(DW L q).isW with
  | true =>
    have:q < P:=Nat.lt_of_not_le (fun hle=>h.now q hle h1 hw' h2);rw [JK hw'] at h4;omega
  | false =>
    rw [FE hw'] at h4;omega
theorem Ab7 (hP:Plan M ops L N wm F) {S:Array Bool} {a:Act} {P:Nat} {e:Env} {Hc:Hp} (h:DSt M L N F c ops.size S a P e Hc) {p:Nat} (hp:p < L.length) (hnl:¬ lst L S p) (hbf:∀ j,(CL L p).testBit j=true→lst L S j) :
 ∀ t ∈ (H4 L p).ts,RV e ((F.A p).getD t .junk) (a.tmps.getD t undef):=by
 intro t ht;obtain ⟨o,ho⟩:=hP.D.at' p hp;by_cases htl:t < (F.A 0).length
 ·by_cases hex:∃ j,j < L.length∧lst L S j∧Ke L j=some t
  ·obtain ⟨j,hj,hl,hd⟩:=hex;rcases ho.ts t ht j hj hd with hb | ⟨_,hb⟩ | rfl
   ·have hjp:=Aig hP.D p p (Nat.le_refl p) hp j hb;rw [TP hP hd htl p Aa hjp];exact h.va j hj hl t hd htl
   ·exact absurd (h.cl j hj hl p hb) hnl
   ·exact absurd hl hnl
  ·rw [Um hP p Aa ?_]
   ·exact h.vb t (fun q hq hl hd=>hex ⟨q,hq,hl,hd⟩)
   ·intro j hj hd;rcases ho.ts t ht j Aa hd with hb | ⟨hb,_⟩ | hb
    ·exact hex ⟨j,by omega,hbf j hb,hd⟩
    ·omega
    ·omega
 ·have:(F.A p).getD t .junk = .junk:=by
   rw [List.getD_eq_getElem?_getD,List.getElem?_eq_none (by rw [Fn hP p Aa];omega)];rfl
  rw [this];trivial
def J1 (A:List V) (ts:List Nat):List V:=(List.range A.length).map (fun t=>if t ∈ ts then A.getD t .junk else .junk)
theorem Qq (A:List V) (ts:List Nat) (t:Nat):(J1 A ts).getD t .junk=if t ∈ ts then A.getD t .junk else .junk:=by
 unfold J1;by_cases h:t < A.length
 ·simp [List.getD,List.getElem?_map,List.getElem?_range h]
 ·have e1:((List.range A.length).map (fun t=>if t ∈ ts then A.getD t .junk else V.junk)).getD t .junk = .junk:=by
   rw [List.getD_eq_getElem?_getD,List.getElem?_eq_none MY];rfl
  have e2:A.getD t .junk = .junk:=by rw [List.getD_eq_getElem?_getD,List.getElem?_eq_none Aa];rfl
  rw [e1,e2];split <;> rfl
theorem Aox (hP:Plan M ops L N wm F) (hwm:∀ j,wm.testBit j=true→(DW L j).isW=true) {S:Array Bool} {a:Act} {P:Nat} {e:Env} {Hc:Hp} (h:DSt M L N F c ops.size S a P e Hc) {p:Nat} (hp:p < L.length) (hnl:¬ lst L S p)
 (hbf:∀ j,(CL L p).testBit j=true→lst L S j) {Q:Exit→Act→World→Prop} {next:Act→World→Prop}
 (hnext:∀ a' P' e' Hc',DSt M L N F c ops.size (S.setIfInBounds (Ez L p) true) a' P' e' Hc'→next a' e'.w):wpOp M.P ops Q (Ez L p) next a e.w:=by
 obtain ⟨o,ho⟩:=hP.D.at' p hp;have hpa:=hP.all p hp;have hPp:P≤p:=Nat.le_of_not_lt (fun hlt=>hnl (h.pre p hlt));have hframe:=Ab7 hP h hp hnl hbf;have hop:ops[Ez L p]?=some o:=ho.op;have hwfalse:(DW L p).isW=true→∀ q,P≤q→q < p→lst L S q:=fun hw q _ hq=>hbf q (ho.w hw q hq);have hskip:F.x p=false→next (a.put (Ke L p) undef) e.w:=by
  intro hx;obtain ⟨hv,hH⟩:=hpa.skip hx;have hRV:RV e (F.v p) undef:=by rw [hv];exact ⟨#[],rfl,trivial⟩
  by_cases hw:(DW L p).isW=true
  ·refine hnext _ (p + 1) e Hc (fin hP h hp hbf (Env.le_refl e) (fun id hid=>.inl hid) hRV Aa (fun q hq=>?_) (fun q h1 h2 h3=>⟨h.now q Aa h2 h3,by omega⟩) (by simp [DH,hw]) h.inv ?_ ?_)
   ·by_cases hqP:q < P
    ·exact .inl (h.pre q hqP)
    ·by_cases hqp:q=p
     ·exact .inr hqp
     ·exact .inl (hwfalse hw q Aa Aa)
   ·rw [hH];exact So hP h p hPp Aa (fun j h1 h2=>hwfalse hw j h1 h2)
   ·intro q h1 h2 h3 h4 h5;rcases h3 with h3 | rfl
    ·exact h.al q Aa h2 h3 h4 h5
    ·omega
  ·refine hnext _ P e Hc (fin hP h hp hbf (Env.le_refl e) (fun id hid=>.inl hid) hRV h.Pm (fun q hq=>.inl (h.pre q hq)) (fun q h1 h2 h3=>⟨h.now q h1 h2 h3,by rintro rfl;exact hw h3⟩) h.bd h.inv h.sub ?_);intro q h1 h2 h3 h4 h5;rcases h3 with h3 | rfl
   ·exact h.al q h1 h2 h3 h4 h5
   ·rw [hx] at h5;cases h5
 have hdo:F.x p=true→o.wp M.P a e.w next Q:=by
  intro hx;obtain ⟨hrun,hepk,hids⟩:=hpa.run hx;have hB:FR e (J1 (F.A p) (DW L p).ts) a.tmps:=by
   refine ⟨by rw [h.len,J1,List.length_map,List.length_range,Fn hP p Aa],fun t=>?_⟩;rw [Qq];split
   ·rename_i ht;exact hframe t (by unfold LOp.ts;exact List.mem_append_right _ ht)
   ·trivial
  have hmask:∀ t ∈ (DW L p).ts,(F.A p).getD t .junk=(J1 (F.A p) (DW L p).ts).getD t .junk:=fun t ht=>by rw [Qq,if_pos ht]
  by_cases hw:(DW L p).isW=true
  ·have hsub:=So hP h p hPp Aa (fun j h1 h2=>hwfalse hw j h1 h2);have hrun':=V5 hmask hrun;refine T9 (c:=⟨e,fun b=>∃ id,Ag (F.H p) id=true∧e.ρ id=b,0⟩) (H:=F.H p) (n:=Fc L N p) (K:=fun v H'=>v=F.v p∧H'=F.H (p + 1)) (h.inv.narrow hsub) hB (MC h hp hnl) (fun _=>Aek h hPp hw) (Nat.zero_le _) ho.dst ho.k ?_ ?_
   ·rintro v x H' e' hI' hv hle hD' ⟨rfl,rfl⟩;obtain ⟨w1,w2⟩:=h.inv.widen hsub hle hI';refine hnext _ (p + 1) e' (F.H (p + 1) ++ Ep Hc (F.H p)) (fin hP h hp hbf hle hD' hv Aa (fun q hq=>?_) (fun q h1 h2 h3=>⟨h.now q Aa h2 h3,by omega⟩) (by simp [DH,hw]) w1 ?_ ?_)
    ·by_cases hqP:q < P
     ·exact .inl (h.pre q hqP)
     ·by_cases hqp:q=p
      ·exact .inr hqp
      ·exact .inl (hwfalse hw q Aa Aa)
    ·intro id hid;exact ⟨by rw [EB,hid];rfl,FI hid⟩
    ·intro q h1 h2 h3 h4 h5;rcases h3 with h3 | rfl
     ·obtain ⟨k1,k2⟩:=h.al q Aa h2 h3 h4 h5;have hno:Ag (F.H p) (Fc L N q)=false:=by
       cases hh:Ag (F.H p) (Fc L N q) with
       | false=>rfl
       | true =>
         have:=Ip hP p Aa _ hh;rw [FE (Ajo h4)] at this;omega
      have hno':=w2 _ k1 hno;rw [EB,Fx hno',ET,EN _ _ hno,k1,hno,k2];simp
     ·omega
   ·unfold OpK Br at *
    cases hk:DW L p with
    | lo lo=>rw [hk] at hrun';rw [show Fc L N p=bs N L.length p (.lo lo) by rw [Fc,hk]];exact hrun'
    | call f xs =>
      rw [hk] at hrun';obtain ⟨v,H',h1,rfl,rfl⟩:=hrun';rw [show Fc L N p=bs N L.length p (.call f xs) by rw [Fc,hk]];exact h1
    | dyn y xs =>
      rw [hk] at hrun';obtain ⟨v,H',h1,rfl,rfl⟩:=hrun';rw [show Fc L N p=bs N L.length p (.dyn y xs) by rw [Fc,hk]];exact h1
  ·have hw:(DW L p).isW=false:=by simpa using hw
   have hsub:=Aki h hp hbf;cases hk:DW L p with
   | call f xs=>rw [hk] at hw;cases hw
   | dyn y xs=>rw [hk] at hw;cases hw
   | lo lo =>
   have hbz:(CL L p &&& wm) >>> P=0:=by
    apply Nat.eq_of_testBit_eq;intro i;rw [Nat.testBit_shiftRight,Nat.testBit_and,Nat.zero_testBit];cases h1:(CL L p).testBit (P + i) with
    | false=>rfl
    | true =>
      cases h2:wm.testBit (P + i) with
      | false=>rfl
      | true =>
        have hlt:=Aig hP.D p p (Nat.le_refl p) hp _ h1;exact absurd (hbf _ h1) (h.now (P + i) Aa Aa (hwm _ h2))
   have hb:Fc L N p=bs N L.length p (.lo lo):=by rw [Fc,hk]
   have hpre:(Af (F.A p) (Mv.hx (CV L N F p) P (CL L p) (F.H P)) (Fc L N p) lo).pre∧(Af (F.A p) (Mv.hx (CV L N F p) P (CL L p) (F.H P)) (Fc L N p) lo).v=F.v p:=by
    rw [hk] at hrun hepk;obtain ⟨k1,k2,_⟩:=hrun;rw [hb];by_cases hpure:LK.isP (.lo lo)=true
    ·obtain ⟨q1,q2⟩:=VO (F.A p) (Mv.hx (CV L N F p) P (CL L p) (F.H P)) (F.H p) (bs N L.length p (.lo lo)) lo hpure;rw [q1,q2];exact ⟨k1,k2⟩
    ·simp only [X8] at hepk;rw [hk] at hw;rw [show LK.isP (.lo lo)=false by simpa using hpure,hw] at hepk;exact Nw hepk (Nr hPp h.bd) hbz
   rw [HN _ _ lo (by rw [hk] at hmask;exact hmask)] at hpre;refine T9 (c:=⟨e,fun b=>∃ id,Ag (Mv.hx (CV L N F p) P (CL L p) (F.H P)) id=true∧e.ρ id=b,0⟩) (H:=Mv.hx (CV L N F p) P (CL L p) (F.H P)) (n:=Fc L N p) (k:=.lo lo)
    (K:=fun v H'=>v=F.v p∧H'=(Af (J1 (F.A p) (LK.lo lo).ts) (Mv.hx (CV L N F p) P (CL L p) (F.H P)) (Fc L N p) lo).H) (h.inv.narrow hsub) (by rw [hk] at hB;exact hB) (MC h hp hnl) (fun hne=>absurd rfl (hne lo)) (Nat.zero_le _) ho.dst (by rw [← hk];exact ho.k) ?_ ⟨hpre.1,hpre.2,rfl⟩
   rintro v x H' e' hI' hv hle hD' ⟨rfl,hH'⟩;obtain ⟨w1,w2⟩:=h.inv.widen hsub hle hI';have hfresh:=MC h hp hnl;have hHcb:Ag Hc (Fc L N p)=false:=by
    cases hh:Ag Hc (Fc L N p) with
    | false=>rfl
    | true=>exact absurd (h.inv.blk _ hh).1 hfresh
   have hwl:LK.isW (.lo lo)=false:=by rw [← hk];exact hw
   have hkeep:∀ id,Ag Hc id=true→Ag (H' ++ Ep Hc (Mv.hx (CV L N F p) P (CL L p) (F.H P))) id=true∧hget (H' ++ Ep Hc (Mv.hx (CV L N F p) P (CL L p) (F.H P))) id=hget Hc id:=by
    intro id hid;have hidb:Fc L N p ≠ id:=fun he=>by rw [← he,hHcb] at hid;cases hid
    have hH2:Ag H' id=Ag (Mv.hx (CV L N F p) P (CL L p) (F.H P)) id∧(Ag (Mv.hx (CV L N F p) P (CL L p) (F.H P)) id=true→hget H' id=hget (Mv.hx (CV L N F p) P (CL L p) (F.H P)) id):=by
     rw [hH'];by_cases hA:LK.isA (.lo lo)=true
     ·obtain ⟨cc,hc⟩:=Sl (J1 (F.A p) (LK.lo lo).ts) (Fc L N p) lo hA ⟨_,hpre.1⟩;rw [hc];simp [Ag,hget,hidb]
     ·rw [ZZ _ _ _ _ hwl (by simpa using hA)];exact ⟨rfl,fun _=>rfl⟩
    cases hh:Ag (Mv.hx (CV L N F p) P (CL L p) (F.H P)) id with
    | true =>
      have h1:Ag H' id=true:=hH2.1.trans hh;refine ⟨by rw [EB,h1];rfl,?_⟩;rw [FI h1,hH2.2 hh,(hsub id hh).2]
    | false =>
      have h1:Ag H' id=false:=hH2.1.trans hh;refine ⟨by rw [EB,h1,ET,hid,hh];rfl,?_⟩;rw [Fx h1,EN _ _ hh]
   refine hnext _ P e' (H' ++ Ep Hc (Mv.hx (CV L N F p) P (CL L p) (F.H P))) (fin hP h hp hbf hle hD' hv h.Pm (fun q hq=>.inl (h.pre q hq)) (fun q h1 h2 h3=>⟨h.now q h1 h2 h3,by rintro rfl;rw [hw] at h3;cases h3⟩) h.bd w1 ?_ ?_)
   ·intro id hid;obtain ⟨k1,k2⟩:=h.sub id hid;obtain ⟨q1,q2⟩:=hkeep id k1;exact ⟨q1,q2.trans k2⟩
   ·intro q h1 h2 h3 h4 h5;by_cases hqp:q=p
    ·subst hqp;rw [hk] at h4;obtain ⟨cc,hc⟩:=Sl (J1 (F.A q) (LK.lo lo).ts) (Fc L N q) lo h4 ⟨_,hpre.1⟩;rw [hH',hc];rw [hk] at hrun;obtain ⟨r1,_,r3⟩:=hrun;rw [HN _ _ lo (by rw [hk] at hmask;exact hmask),← hb,hc] at r3;rw [← r3];simp [Ag,hget]
    ·rcases h3 with h3 | h3
     ·obtain ⟨k1,k2⟩:=h.al q h1 h2 h3 h4 h5;obtain ⟨q1,q2⟩:=hkeep _ k1;exact ⟨q1,q2.trans k2⟩
     ·exact absurd h3 hqp
 unfold wpOp;simp only [hop];have hg:=hpa.g;cases hgo:(H4 L p).g with
 | none =>
   rw [hgo] at hg;have hgn:o.guard=none:=by
    have:=ho.g;rw [hgo] at this;cases hoo:o.guard with
    | none=>rfl
    | some q=>rw [hoo] at this;simp [QN] at this
   rw [if_pos (by simp [Region.wanted,hgn])];exact .inl (hdo hg)
 | some q =>
   obtain ⟨t,b0⟩:=q;rw [hgo] at hg;simp only at hg;have hcg:=ho.g;rw [hgo] at hcg;have hwant:=N6 hcg a.tmps o rfl;have hvt:=hframe t (by unfold LOp.ts;rw [hgo];simp);have hget:a.tmps.getD t undef=(a.tmps[t]?).getD undef:=B9;cases hA:(F.A p).getD t .junk <;> rw [hA] at hg hvt <;> simp only at hg;case bool b' =>
    have hbv:=FL hvt;have htv:a.tmps[t]?=some (.bool b'):=by
     rw [hget] at hbv;cases hq:a.tmps[t]? with
     | none=>rw [hq] at hbv;simp [undef] at hbv
     | some y=>rw [hq] at hbv;simp at hbv;rw [hbv]
    rw [htv] at hwant;simp only at hwant;cases hx:F.x p with
    | true =>
      rw [hx] at hg;rw [if_pos (by rw [hwant];exact hg.symm)];exact .inl (hdo hx)
    | false =>
      rw [hx] at hg;rw [if_neg (by rw [hwant,← hg];simp),ho.dst];exact hskip hx
   case tup fs =>
    simp only [RV] at hvt;obtain ⟨xs,hx,_⟩:=hvt;have:Region.wanted o (yielded ops a.tmps)=false:=by
     rw [hwant];split
     ·rename_i b' hq;rw [hget,hq] at hx;simp at hx
     ·rfl
    rw [if_neg (by rw [this];simp),ho.dst];exact hskip hg
def left (n:Nat) (S:Array Bool):Nat:=(List.range n).countP (fun i=>!S.getD i true)
theorem Nk {p q:Nat→Bool}:∀ (l:List Nat),(∀ i ∈ l,q i=true→p i=true)→(∃ i ∈ l,p i=true∧q i=false)→l.countP q < l.countP p
 | [],_,h=>by obtain ⟨i,h,_⟩:=h;simp at h
 | i :: l, hle, h => by
   have hmono:l.countP q≤l.countP p:=List.countP_mono_left (fun j hj hq=>hle j (by simp [hj]) hq);obtain ⟨j,hj,h1,h2⟩:=h;rcases List.mem_cons.1 hj with rfl | hj
   ·rw [List.countP_cons,List.countP_cons,h1,h2];simp;omega
   ·have ih:=Nk l (fun j hj hq=>hle j (by simp [hj]) hq) ⟨j,hj,h1,h2⟩;have hi:=hle i B9;rw [List.countP_cons,List.countP_cons];cases hq:q i with
    | true=>rw [hi hq];simp;omega
    | false=>cases hp:p i <;> simp <;> omega
theorem Aq4 (hP:Plan M ops L N wm F) (hwm:∀ j,wm.testBit j=true→(DW L j).isW=true) {Q:Exit→Act→World→Prop}
 (hend:∀ S a P e Hc,DSt M L N F c ops.size S a P e Hc→(∀ p,p < L.length→lst L S p)→Q .normal a e.w) :
 ∀ (fuel:Nat) (S:Array Bool) (a:Act) (P:Nat) (e:Env) (Hc:Hp),DSt M L N F c ops.size S a P e Hc→left ops.size S≤fuel→wpAny M.P .any ops Q fuel S a e.w:=by
 have hready:∀ (S:Array Bool) (a:Act) (P:Nat) (e:Env) (Hc:Hp),DSt M L N F c ops.size S a P e Hc→Region.ready .any ops S=[]→∀ p,p < L.length→lst L S p:=by
  intro S a P e Hc h hr;have key:∀ n p,p≤n→p < L.length→lst L S p:=by
   intro n;induction n using Nat.strongRecOn with
   | _ n ih =>
     intro p hp hl;obtain ⟨o,ho⟩:=hP.D.at' p hl;have hop:ops[Ez L p]?=some o:=ho.op;have hix:=Aii hP.D hl;cases hn:S.getD (Ez L p) false with
     | true=>exact hn
     | false =>
       have hmem:Ez L p ∈ Region.ready .any ops S:=by
        unfold Region.ready;rw [List.mem_filter];refine ⟨List.mem_range.2 hix,?_⟩;have hsz:=h.sz;have hgt:S.getD (Ez L p) true=false:=by
         have hlt:Ez L p < S.size:=Aa;simp [hlt] at hn ⊢;exact hn
        rw [hgt,hop];simp only [Bool.not_false,Option.map_some,Option.getD_some,Bool.true_and,Array.all_eq_true];intro i hi;have hmem':o.after[i] ∈ o.after.toList:=B9;cases hb:Region.binds .any o.after[i] with
        | false=>simp
        | true =>
          have hlt:=ho.lt _ hmem' hb;have hl':=ih (C6 L o.after[i].on) Aa (C6 L o.after[i].on) (Nat.le_refl _) Aa;unfold lst at hl';have he:Ez L (C6 L o.after[i].on)=o.after[i].on:=KW Aa;rw [he] at hl';simp only [Bool.not_true,Bool.false_or];exact hl'
       rw [hr] at hmem;simp at hmem
  exact fun p hp=>key p p (Nat.le_refl p) hp
 intro fuel;induction fuel with
 | zero =>
   intro S a P e Hc h hf;have hr:Region.ready .any ops S=[]:=by
    unfold Region.ready;rw [List.filter_eq_nil_iff];intro i hi;have:left ops.size S=0:=Aa;unfold left at this;rw [List.countP_eq_zero] at this;have:=this i hi;simp only [Bool.not_eq_true,Bool.not_eq_false'] at this;rw [this];simp
   exact ⟨hr,hend S a P e Hc h (hready S a P e Hc h hr)⟩
 | succ fuel ih =>
   intro S a P e Hc h hf;refine ⟨fun hr=>hend S a P e Hc h (hready S a P e Hc h hr),fun i hi=>?_⟩;unfold Region.ready at hi;rw [List.mem_filter] at hi;obtain ⟨h1,h2⟩:=hi;have hin:=List.mem_range.1 h1;have hpl:=hP.D.all i hin;obtain ⟨o,ho⟩:=hP.D.at' _ hpl;have hix:Ez L (C6 L i)=i:=KW hpl;have hop:ops[i]?=some o:=by rw [← hix];exact ho.op
   simp only [Lb0] at h2;obtain ⟨h2,h3⟩:=h2;rw [hop] at h3;simp only [Option.map_some,Option.getD_some,Array.all_eq_true] at h3;have hsz:=h.sz;have hnl:¬ lst L S (C6 L i):=by
    unfold lst;rw [hix];have hlt:i < S.size:=Aa;simp [hlt] at h2 ⊢;exact h2
   have hedge:∀ e ∈ o.after.toList,Region.binds .any e=true→lst L S (C6 L e.on):=by
    intro e he hb;obtain ⟨k,hk,rfl⟩:=List.mem_iff_getElem.1 he;have:=h3 k (by simpa using hk);have hlt:=ho.lt _ he hb;unfold lst;rw [show Ez L (C6 L (o.after.toList[k]).on)=(o.after.toList[k]).on from KW Aa];simp only [Array.getElem_toList] at hb ⊢;rw [hb] at this;simpa using this
   have hbf:∀ j,(CL L (C6 L i)).testBit j=true→lst L S j:=by
    intro j hj;obtain ⟨e,he,hb,hh⟩:=ho.bf j hj;have hl:=hedge e he hb;rcases hh with rfl | hh
    ·exact hl
    ·exact h.cl _ (by have:=ho.lt e he hb;omega) hl j hh
   have:=Aox hP hwm h hpl hnl hbf (Q:=Q) (next:=wpAny M.P .any ops Q fuel (S.setIfInBounds i true)) (fun a' P' e' Hc' h'=>by
    rw [hix] at h';refine ih _ a' P' e' Hc' h' ?_;have hlt:left ops.size (S.setIfInBounds i true) < left ops.size S:=by
     unfold left;refine Nk _ (fun j hj hq=>?_) ⟨i,h1,?_,?_⟩
     ·have hjl:=List.mem_range.1 hj;by_cases hij:i=j
      ·subst hij;simp [hsz,hin] at hq
      ·have hjs:j < S.size:=Aa;simp [hjs,Array.getElem_setIfInBounds_ne,hij] at hq ⊢;exact hq
     ·rw [h2];rfl
     ·simp [hsz,hin]
    omega)
   rw [hix] at this;exact this
theorem VB {K:List V→Hp→Prop} {A:List V} {H:Hp} {e:Env} {a:Act} {Q:Exit→Act→World→Prop} (hc:Afa M ops L=true) (hI:Inv M c e H) (hA:FR e A a.tmps) (hD:∀ id,N≤id→¬ e.D id) (hdef:a.defers=[])
 (hwm:∀ j,wm.testBit j=true→(DW L j).isW=true)
 (hK:∀ A' H' a' e',Inv M c e' H'→FR e' A' a'.tmps→(∀ id,N + 32 * L.length≤id→¬ e'.D id)→a'.defers=[]→K A' H'→Q .normal a' e'.w)
 (h:Bd M K L.length N wm L 0 A H [(0,H)] []):wpAny M.P .any ops Q ops.size (Array.replicate ops.size false) a e.w:=by
 have hDF:=Ms hc;obtain ⟨F,hs,hall,hKF⟩:=PV (K:=K) (L:=L) L 0 { A:=fun _=>A,H:=fun _=>H,x:=fun _=>false,v:=fun _=>.junk } (fun i=>by simp) B9 (by simpa [DH,CV] using h);have hA0:F.A 0=A:=hs.A 0 (Nat.le_refl 0);have hH0:F.H 0=H:=hs.H 0 (Nat.le_refl 0)
 have hP:Plan M ops L N wm F:=⟨hDF,fun p hp=>hall p (Nat.zero_le p) hp,fun id hid=>by
  rw [hH0] at hid
  exact Nat.lt_of_not_le (fun hle=>hD id hle (hI.blk id hid).1)⟩
 have hno:∀ p,¬ lst L (Array.replicate ops.size false) p:=fun p hl=>by
  unfold lst at hl;by_cases hlt:Ez L p < ops.size
  ·simp [hlt] at hl
  ·simp [hlt] at hl
 have h0:DSt M L N F c ops.size (Array.replicate ops.size false) a 0 e H:=by
  refine ⟨by simp,fun p _ hl=>absurd hl (hno p),fun p hp=>absurd hp (Nat.not_lt_zero _),fun p _ _ _=>hno p,Nat.zero_le _,by simp [DH],hI,fun id hid=>?_,fun p _ _ hl=>absurd hl (hno p),by rw [hA0];exact hA.len,fun p _ hl=>absurd hl (hno p),fun t _=>by rw [hA0];exact hA.val t,fun id hid=>.inl (Nat.lt_of_not_le (fun hle=>hD id hle hid)),hdef⟩;rw [hH0] at hid ⊢;exact ⟨hid,rfl⟩
 refine Aq4 hP hwm (fun S a' P e' Hc hst hl=>?_) ops.size _ a 0 e H h0 (by
  unfold left
  exact Nat.le_trans List.countP_le_length B9)
 have hsub:=So hP hst L.length hst.Pm (Nat.le_refl _) (fun j _ hj=>hl j hj);refine hK (F.A L.length) (F.H L.length) a' e' (hst.inv.sub hsub) ⟨by rw [hst.len,Fn hP _ (Nat.le_refl _)],fun t=>?_⟩ (fun id hid hd=>?_) hst.defs hKF
 ·by_cases htl:t < (F.A 0).length
  ·by_cases hex:∃ j,j < L.length∧Ke L j=some t
   ·obtain ⟨j,hj,hd⟩:=hex;rw [TP hP hd htl L.length (Nat.le_refl _) hj];exact hst.va j hj (hl j hj) t hd htl
   ·rw [Um hP L.length (Nat.le_refl _) (fun j hj hd=>hex ⟨j,hj,hd⟩)];exact hst.vb t (fun q hq _ hd=>hex ⟨q,hq,hd⟩)
  ·have:(F.A L.length).getD t .junk = .junk:=by
    rw [List.getD_eq_getElem?_getD,List.getElem?_eq_none (by rw [Fn hP _ (Nat.le_refl _)];omega)];rfl
   rw [this];trivial
 ·rcases hst.ids id hd with h1 | ⟨q,h1,_,_,h4⟩
  ·omega
  ·cases hw:(DW L q).isW with
   | true=>rw [JK hw] at h4;omega
   | false=>rw [FE hw] at h4;omega
def Ht:List DOp→Nat→Nat
 | [],_=>0
 | d :: r,p=>(if d.o.k.isW then 2 ^ p else 0) ||| Ht r (p + 1)
theorem ND:∀ (L:List DOp) (p j:Nat),(Ht L p).testBit j=true→p≤j∧(DW L (j - p)).isW=true
 | [],_,_,h=>by simp [Ht] at h
 | d :: r, p, j, h => by
   simp only [Ht,Nat.testBit_or,Bool.or_eq_true] at h;rcases h with h | h
   ·split at h
    ·rename_i hw;rw [Nat.testBit_two_pow] at h;have:p=j:=MY;subst this;exact ⟨Nat.le_refl _,by simpa [DW,H4] using hw⟩
    ·simp at h
   ·obtain ⟨h1,h2⟩:=ND r (p + 1) j h;refine ⟨by omega,?_⟩;have e1:j - p=(j - (p + 1)) + 1:=Aa;rw [e1];simpa [DW,H4] using h2
end
variable {M:Seat}
inductive It where
 | code (c:LC)
 | blk (id:Nat)
 | inv (J:List V→Hp→Nat→Prop)
inductive Jt where
 | code (c:Code)
 | blk (id:Nat)
 | inv (J:List V→Hp→Nat→Prop)
def EE (M:Seat):List Jt→List It→Prop
 | [],[]=>True
 | .code C :: r,.code c :: r'=>Cm M C c=true∧EE M r r'
 | .blk i :: r,.blk i' :: r'=>i=i'∧EE M r r'
 | .inv J :: r,.inv J' :: r'=>J=J'∧EE M r r'
 | _,_=>False
def Ed (M:Seat) (c:Ctx) (Q:List V→Hp→Nat→Prop):List Jt→Exit→Act→World→Prop
 | [],.normal,a,w | [],.ret,a,w=>∃ A H N,VP M c A H N a w∧Q A H N
 | [],_,_,_=>False
 | .code C :: r,.normal,a,w=>C.wp M.P (Ed M c Q r) a w
 | .code _ :: r,ex,a,w=>Ed M c Q r ex a w
 | .blk id :: r,.exit j,a,w=>if j=id then Ed M c Q r .normal a w else Ed M c Q r (.exit j) a w
 | .blk _ :: r,ex,a,w=>Ed M c Q r ex a w
 | .inv J :: _,.normal,a,w=>∃ A H N,VP M c A H N a w∧J A H N
 | .inv _ :: r,ex,a,w=>Ed M c Q r ex a w
theorem Ws {c:Ctx} {Q:List V→Hp→Nat→Prop} {C:Code} {r:List Jt}:Ed M c Q (.code C :: r)=Exit.then (C.wp M.P (Ed M c Q r)) (Ed M c Q r):=by
 funext ex a w;cases ex <;> rfl
theorem Zr {c:Ctx} {Q:List V→Hp→Nat→Prop} {i:Nat} {r:List Jt}:Ed M c Q (.blk i :: r)=Exit.inBlock i (Ed M c Q r):=by
 funext ex a w;cases ex <;> rfl
def CM (id:Nat):List It→Option (List It)
 | []=>none
 | .blk i :: r=>if id=i then some r else CM id r
 | _ :: r=>CM id r
def II (P:Program) (C:Code) (Q:Exit→Act→World→Prop) (a:Act) (w:World):Prop :=
 ∀ (b:Frame) (k:List Item) (cs:List Frame),∃ e a' w',Q e a' w'∧Arrives P (lone (b.at a (.code C :: .inLoop C :: k)) cs w) b k cs e a' w'
theorem II.wp {P:Program} {C:Code} {Q:Exit→Act→World→Prop} {a:Act} {w:World} (h:II P C Q a w):(Code.loop C).wp P Q a w:=by
 intro b k cs;obtain ⟨e,a',w',hq,harr⟩:=h b k cs;exact ⟨e,a',w',hq,.of_steps (.one step_loop) harr⟩
def Hs (M:Seat) (x:Ctx) (Q:List V→Hp→Nat→Prop) (c:LC) (k:List It) (A:List V) (H:Hp) (N:Nat):Prop :=
 ∀ a w kr C,VP M x A H N a w→EE M kr k→Cm M C c=true→II M.P C (Ed M x Q kr) a w
def AV (M:Seat) (x:Ctx) (Q:List V→Hp→Nat→Prop) (k:List It) (N:Nat) (A:List V) (H:Hp):Prop :=
 ∀ (a:Act) (w:World) (kr:List Jt),VP M x A H N a w→EE M kr k→Ed M x Q kr .normal a w
def ex (M:Seat) (x:Ctx) (Q:List V→Hp→Nat→Prop):Nat→List It→Nat→List V→Hp→Prop
 | 0,k,N,A,H=>AV M x Q k N A H
 | _ + 1,[],N,A,H=>Q A H N
 | n + 1, .code c :: k, N, A, H =>
   match c with
   | .skip=>ex M x Q n k N A H
   | .reg ops=>Ro M (ex M x Q n k (N + 16 * ops.length)) ops N A H
   | .regd L=>Bd M (ex M x Q n k (N + 32 * L.length)) L.length N (Ht L 0) L 0 A H [(0,H)] []
   | .seq c d=>ex M x Q n (.code c :: .code d :: k) N A H
   | .cond y c d => match y.ev A with
     | .bool t=>(t=true→ex M x Q n (.code c :: k) N A H)∧(t=false→ex M x Q n (.code d :: k) N A H)
     | _=>False
   | .block id c=>ex M x Q n (.code c :: .blk id :: k) N A H
   | .loop c=>Hs M x Q c k A H N
   | .exit id => match CM id k with
     | some k'=>ex M x Q n k' N A H
     | none=>False
   | .ret=>Q A H N
 | n + 1,.blk _ :: k,N,A,H=>ex M x Q n k N A H
 | _ + 1,.inv J :: _,N,A,H=>J A H N
theorem F0 {x:Ctx} {Q:List V→Hp→Nat→Prop} {id:Nat} {a:Act} {w:World}:∀ (kr:List Jt) (k k':List It),EE M kr k→CM id k=some k'→(∀ kr',EE M kr' k'→Ed M x Q kr' .normal a w)→Ed M x Q kr (.exit id) a w
 | [],[],_,_,h,_=>by simp [CM] at h
 | .code C :: r, .code c :: r', k', hm, h, hp => by
   simp only [CM] at h;exact F0 r r' k' hm.2 h hp
 | .inv J :: r, .inv J' :: r', k', hm, h, hp => by
   simp only [CM] at h;exact F0 r r' k' hm.2 h hp
 | .blk i :: r, .blk i' :: r', k', hm, h, hp => by
   obtain ⟨rfl,hm⟩:=hm;simp only [CM] at h;simp only [Ed];split at h
   ·rename_i hid;rw [if_pos hid];simp only [Option.some.injEq] at h;subst h;exact hp r hm
   ·rename_i hid;rw [if_neg hid];exact F0 r r' k' hm h hp
 | [],_ :: _,_,hm,_,_=>by simp [EE] at hm
 | _ :: _,[],_,hm,_,_=>by simp [EE] at hm
 | .code _ :: _,.blk _ :: _,_,hm,_,_=>by simp [EE] at hm
 | .code _ :: _,.inv _ :: _,_,hm,_,_=>by simp [EE] at hm
 | .blk _ :: _,.code _ :: _,_,hm,_,_=>by simp [EE] at hm
 | .blk _ :: _,.inv _ :: _,_,hm,_,_=>by simp [EE] at hm
 | .inv _ :: _,.code _ :: _,_,hm,_,_=>by simp [EE] at hm
 | .inv _ :: _,.blk _ :: _,_,hm,_,_=>by simp [EE] at hm
theorem Ik {x:Ctx} {Q:List V→Hp→Nat→Prop} {a:Act} {w:World} (h:∃ A H N,VP M x A H N a w∧Q A H N):∀ kr:List Jt,Ed M x Q kr .ret a w
 | []=>h
 | .code _ :: r=>Ik h r
 | .blk _ :: r=>Ik h r
 | .inv _ :: r=>Ik h r
theorem Dl {x:Ctx} {Q:List V→Hp→Nat→Prop}:∀ (n:Nat) (k:List It) (N:Nat) (A:List V) (H:Hp),ex M x Q n k N A H→AV M x Q k N A H
 | 0,_,_,_,_,h,a,w,kr,hs,hm=>h a w kr hs hm
 | n + 1, [], N, A, H, h, a, w, kr, hs, hm => by
   cases kr with
   | nil=>exact ⟨A,H,N,hs,h⟩
   | cons j r=>cases j <;> exact hm.elim
 | n + 1, .blk i :: k, N, A, H, h, a, w, kr, hs, hm => by
   cases kr with
   | nil=>exact hm.elim
   | cons j r =>
     cases j <;> try (exact hm.elim)
     simp only [Ed];exact Dl n k N A H h a w r hs hm.2
 | n + 1, .inv J :: k, N, A, H, h, a, w, kr, hs, hm => by
   cases kr with
   | nil=>exact hm.elim
   | cons j r =>
     cases j <;> try (exact hm.elim)
     obtain ⟨rfl,hm⟩:=hm;exact ⟨A,H,N,hs,h⟩
 | n + 1, .code c :: k, N, A, H, h, a, w, kr, hs, hm => by
   cases kr with
   | nil=>exact hm.elim
   | cons j r =>
     cases j <;> try (exact hm.elim)
     rename_i C;obtain ⟨hc,hm⟩:=hm;show C.wp M.P (Ed M x Q r) a w;cases c with
     | skip =>
       cases C <;> simp only [Cm,Bool.false_eq_true] at hc;exact wp_skip (Dl n k N A H h a w r hs hm)
     | reg ops =>
       cases C <;> simp only [Cm,Bool.false_eq_true] at hc;rename_i id os draw;simp only [Bool.and_eq_true,beq_iff_eq] at hc;obtain ⟨rfl,hc⟩:=hc;obtain ⟨e,rfl,hI,hA,hD,hk,hdef⟩:=hs;refine wp_region_list (PJ os.toList ops N A H e a hc hI hA hD hk hdef ?_ h);intro A' H' N' a' w' hs' hN hK;subst hN;exact Dl n k _ A' H' hK a' w' r hs' hm
     | regd L =>
       cases C <;> simp only [Cm,Bool.false_eq_true] at hc;rename_i id os draw;simp only [Bool.and_eq_true,beq_iff_eq] at hc;obtain ⟨rfl,hc⟩:=hc;obtain ⟨e,rfl,hI,hA,hD,hk,hdef⟩:=hs;obtain ⟨hle,hI'⟩:=hI.drew;refine wp_region_any (Ms hc).mixed ?_;refine VB hc hI' ⟨hA.len,fun t=>Ic hle (hA.val t)⟩ hD hdef (fun j hj=>(ND L 0 j hj).2) (fun A' H' a' e' q1 q2 q3 q4 q5=>?_) h;exact Dl n k _ A' H' q5 a' e'.w r ⟨e',rfl,q1,q2,q3,by omega,q4⟩ hm
     | seq c d =>
       cases C <;> simp only [Cm,Bool.false_eq_true] at hc;simp only [Bool.and_eq_true] at hc;refine wp_seq ?_;rw [← Ws];exact Dl n (.code c :: .code d :: k) N A H h a w (.code _ :: .code _ :: r) hs ⟨hc.1,hc.2,hm⟩
     | cond y c d =>
       cases C <;> simp only [Cm,Bool.false_eq_true] at hc;simp only [Bool.and_eq_true] at hc;obtain ⟨⟨hx,hc1⟩,hc2⟩:=hc;have hs':=hs;obtain ⟨e,rfl,hI,hA,hD,hk,hdef⟩:=hs';have hv:=A9 hI.φ hA hx (Dd hI hx);simp only [ex] at h;split at h
       ·rename_i t ht;rw [ht] at hv;refine wp_cond_split (FL hv) (fun htt=>?_) (fun htt=>?_)
        ·exact Dl n (.code c :: k) N A H (h.1 htt) a e.w (.code _ :: r) hs ⟨hc1,hm⟩
        ·exact Dl n (.code d :: k) N A H (h.2 htt) a e.w (.code _ :: r) hs ⟨hc2,hm⟩
       ·exact h.elim
     | block id c =>
       cases C <;> simp only [Cm,Bool.false_eq_true] at hc;simp only [Bool.and_eq_true,beq_iff_eq] at hc;obtain ⟨rfl,hc⟩:=hc;refine wp_block ?_;rw [← Zr];exact Dl n (.code c :: .blk _ :: k) N A H h a w (.code _ :: .blk _ :: r) hs ⟨hc,rfl,hm⟩
     | loop c =>
       cases C <;> simp only [Cm,Bool.false_eq_true] at hc;exact (h a w r _ hs hm hc).wp
     | exit id =>
       cases C <;> simp only [Cm,Bool.false_eq_true] at hc;simp only [beq_iff_eq] at hc;subst hc;simp only [ex] at h;split at h
       ·rename_i k' hd;exact wp_exit (F0 r k k' hm hd (fun kr' hm'=>Dl n k' N A H h a w kr' hs hm'))
       ·exact h.elim
     | ret =>
       cases C <;> simp only [Cm,Bool.false_eq_true] at hc;exact wp_ret (Ik ⟨A,H,N,hs,h⟩ r)
theorem es {x:Ctx} {Q:List V→Hp→Nat→Prop} (n:Nat) {k:List It} {N:Nat} {A:List V} {H:Hp} (h:ex M x Q n k N A H):AV M x Q k N A H:=Dl n k N A H h
theorem eX {x:Ctx} {Q:List V→Hp→Nat→Prop} {k:List It} {N:Nat} {A:List V} {H:Hp} (h:ex M x Q 2000 k N A H):AV M x Q k N A H:=es 2000 h
theorem Ac0 {P:Program} {c:Code} {Q:Exit→Act→World→Prop} {σ:Type} (I:σ→Act→World→Prop) (μ:σ→Nat)
 (round:∀ s a w,I s a w→c.wp P (Exit.then (fun a' w'=>∃ s',I s' a' w'∧μ s' < μ s) Q) a w):∀ (s:σ) (a:Act) (w:World),I s a w→II P c Q a w:=by
 have key:∀ n (s:σ) a w,μ s=n→I s a w→∀ (b:Frame) (k:List Item) (cs:List Frame),
  ∃ e a' w',Q e a' w'∧Arrives P (lone (b.at a (.code c :: .inLoop c :: k)) cs w) b k cs e a' w':=by
  intro n;induction n using Nat.strongRecOn with
  | _ n ih =>
    intro s a w hn hI b k cs;obtain ⟨e,a₁,w₁,hq,harr⟩:=round s a w hI b (.inLoop c :: k) cs;cases e with
    | normal =>
      obtain ⟨s',hI₁,hlt⟩:=hq;obtain ⟨e₂,a₂,w₂,hq₂,harr₂⟩:=ih (μ s') (hn ▸ hlt) s' a₁ w₁ rfl hI₁ b k cs;exact ⟨e₂,a₂,w₂,hq₂,.of_steps (Steps.trans harr (.one step_inLoop)) harr₂⟩
    | exit id=>exact ⟨_,a₁,w₁,hq,.pass (x:=.inLoop c) rfl (fun _ _=>.inl B9) harr⟩
    | goto l=>exact ⟨_,a₁,w₁,hq,.pass (x:=.inLoop c) rfl (fun _ _=>.inl B9) harr⟩
    | ret=>exact ⟨_,a₁,w₁,hq,.pass (x:=.inLoop c) rfl (fun _ _=>.inl B9) harr⟩
    | panic ch=>exact ⟨_,a₁,w₁,hq,.pass (x:=.inLoop c) rfl (fun _ _=>.inl B9) harr⟩
    | outgrown=>exact ⟨_,a₁,w₁,hq,.pass (x:=.inLoop c) rfl (fun _ _=>.inl B9) harr⟩
 intro s a w h b k cs;exact key _ s a w rfl h b k cs
def Ak (M:Seat) (x:Ctx) (A:List V) (H:Hp) (N:Nat) (A':List V) (H':Hp) (N':Nat):Prop:=∀ a w,VP M x A H N a w→VP M x A' H' N' a w
theorem Ak.refl {x:Ctx} {A:List V} {H:Hp} {N:Nat}:Ak M x A H N A H N:=fun _ _ h=>h
theorem Am {x:Ctx} {Q:List V→Hp→Nat→Prop} {c:LC} {k:List It} {A:List V} {H:Hp} {N:Nat} {σ:Type} (I:σ→Prop) (sA:σ→List V) (sH:σ→Hp) (sN:σ→Nat) (μ:σ→Nat) (s0:σ)
 (hI:I s0) (hw:Ak M x A H N (sA s0) (sH s0) (sN s0))
 (round:∀ s,I s→AV M x Q (.code c :: .inv (fun A' H' N'=>∃ s',I s'∧μ s' < μ s∧Ak M x A' H' N' (sA s') (sH s') (sN s')) :: k) (sN s) (sA s) (sH s)) :
 Hs M x Q c k A H N:=by
 intro a w kr C hs hm hc;refine Ac0 (σ:=σ) (fun s a w=>I s∧VP M x (sA s) (sH s) (sN s) a w) μ ?_ s0 a w ⟨hI,hw a w hs⟩;rintro s a w ⟨hIs,hss⟩;have hn:=round s hIs;have:=hn a w (.code C :: .inv _ :: kr) hss ⟨hc,rfl,hm⟩;have hp:Ed M x Q (.inv (fun A' H' N'=>∃ s',I s'∧μ s' < μ s∧Ak M x A' H' N' (sA s') (sH s') (sN s')) :: kr)=Exit.then (fun a' w'=>∃ A' H' N',VP M x A' H' N' a' w'∧∃ s',I s'∧μ s' < μ s∧Ak M x A' H' N' (sA s') (sH s') (sN s')) (Ed M x Q kr):=by
  funext ex a w;cases ex <;> rfl
 have h2:C.wp M.P (Ed M x Q (.inv (fun A' H' N'=>∃ s',I s'∧μ s' < μ s∧Ak M x A' H' N' (sA s') (sH s') (sN s')) :: kr)) a w:=this;rw [hp] at h2;refine Code.wp_mono (fun ex a' w' h=>?_) h2;cases ex <;> try (exact h)
 obtain ⟨A',H',N',hs',s',h1,h3,h4⟩:=h;exact ⟨s',⟨h1,h4 _ _ hs'⟩,h3⟩
theorem AV.weak {x:Ctx} {Q:List V→Hp→Nat→Prop} {k:List It} {A:List V} {H:Hp} {N:Nat} (A':List V) (H':Hp) (N':Nat) (hw:Ak M x A H N A' H' N') (h:AV M x Q k N' A' H'):AV M x Q k N A H :=
 fun a w kr hs hm=>h a w kr (hw a w hs) hm
theorem A5 {x:Ctx} {Q:List V→Hp→Nat→Prop} {c:LC} {k:List It} {A:List V} {H:Hp} {N:Nat}
 (h:AV M x Q (.code c :: .inv (fun A' H' N'=>Hs M x Q c k A' H' N') :: k) N A H):Hs M x Q c k A H N:=by
 intro a w kr C hs hm hc;have h1:=h a w (.code C :: .inv _ :: kr) hs ⟨hc,rfl,hm⟩;have hp:Ed M x Q (.inv (fun A' H' N'=>Hs M x Q c k A' H' N') :: kr)=Exit.then (fun a' w'=>∃ A' H' N',VP M x A' H' N' a' w'∧Hs M x Q c k A' H' N') (Ed M x Q kr):=by
  funext ex a w;cases ex <;> rfl
 have h2:C.wp M.P (Ed M x Q (.inv (fun A' H' N'=>Hs M x Q c k A' H' N') :: kr)) a w:=h1;rw [hp] at h2;intro b kk cs;obtain ⟨e,a₁,w₁,hq,harr⟩:=h2 b (.inLoop C :: kk) cs;cases e with
 | normal =>
   obtain ⟨A',H',N',hs',hl⟩:=hq;obtain ⟨e₂,a₂,w₂,hq₂,harr₂⟩:=hl a₁ w₁ kr C hs' hm hc b kk cs;exact ⟨e₂,a₂,w₂,hq₂,.of_steps (Steps.trans harr (.one step_inLoop)) harr₂⟩
 | exit id=>exact ⟨_,a₁,w₁,hq,.pass (x:=.inLoop C) rfl (fun _ _=>.inl B9) harr⟩
 | goto l=>exact ⟨_,a₁,w₁,hq,.pass (x:=.inLoop C) rfl (fun _ _=>.inl B9) harr⟩
 | ret=>exact ⟨_,a₁,w₁,hq,.pass (x:=.inLoop C) rfl (fun _ _=>.inl B9) harr⟩
 | panic ch=>exact ⟨_,a₁,w₁,hq,.pass (x:=.inLoop C) rfl (fun _ _=>.inl B9) harr⟩
 | outgrown=>exact ⟨_,a₁,w₁,hq,.pass (x:=.inLoop C) rfl (fun _ _=>.inl B9) harr⟩
end Mv
