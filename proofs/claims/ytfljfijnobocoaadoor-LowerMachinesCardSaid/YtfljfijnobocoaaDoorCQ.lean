/- A part. -/
import Derived.Test.YtfljfijnobocoaaDoorCP
set_option linter.all false
namespace Mv
open Go
section
variable {M:Seat} {ops:Array Oper} {L:List DOp} {N wm:Nat} {F:Pl} {c:Ctx}
theorem EO {S:Array Bool} {i q:Nat} (h:lst L S q):lst L (S.setIfInBounds i true) q:=by
 unfold lst at *
 by_cases hi:i=CZ L q
 ·subst hi
  by_cases hl:CZ L q < S.size
  ·simp [hl]
  ·simp [hl] at h
 ·simpa [Array.getElem?_setIfInBounds_ne hi] using h
theorem Abh (hD:DFacts M ops L) {p q:Nat} (hp:p < L.length) (hq:q < L.length) (h:CZ L p=CZ L q):p=q:=by
 obtain ⟨o,ho⟩:=hD.at' p hp
 obtain ⟨o',ho'⟩:=hD.at' q hq
 rw [← ho.pos,← ho'.pos]
 exact congrArg _ h
theorem Zg (hD:DFacts M ops L) {p:Nat} (hp:p < L.length):CZ L p < ops.size:=by
 obtain ⟨o,ho⟩:=hD.at' p hp
 exact (Array.getElem?_eq_some_iff.1 ho.op).1
theorem YD (hD:DFacts M ops L) {S:Array Bool} {p q:Nat} (hp:p < L.length) (hq:q < L.length) (h:lst L (S.setIfInBounds (CZ L p) true) q):lst L S q ∨ q=p:=by
 by_cases hpq:q=p
 ·exact .inr hpq
 ·left
  unfold lst at *
  have hne:CZ L p ≠ CZ L q:=fun he=>hpq (Abh hD hq hp he.symm)
  simpa [Array.getElem?_setIfInBounds_ne hne] using h
theorem WC (hD:DFacts M ops L) {S:Array Bool} (hS:S.size=ops.size) {p:Nat} (hp:p < L.length):lst L (S.setIfInBounds (CZ L p) true) p:=by
 have:=Zg hD hp
 unfold lst
 simp [hS,this]
theorem fin (hP:Plan M ops L N wm F) {S:Array Bool} {a:Act} {P:Nat} {e:Env} {Hc:Hp} (h:DSt M L N F c ops.size S a P e Hc) {p:Nat} (hp:p < L.length) (hbf:∀ j,(BO L p).testBit j=true→lst L S j)
 {e':Env} (hle:e.le e') (hD:∀ id,e'.D id→e.D id ∨ (DG L N p≤id∧id < DG L N p + 16)) {x:Value} (hx:RV e' (F.v p) x) {P':Nat} {Hc':Hp}
 (hPm:P'≤L.length) (hpre:∀ q,q < P'→lst L S q ∨ q=p) (hnow:∀ q,P'≤q→q < L.length→(CG L q).isW=true→¬ lst L S q∧q ≠ p) (hbd:(P',F.H P') ∈ C2 L F P') (hinv:Inv M c e' Hc') (hsub:XS (F.H P') Hc')
 (hal:∀ q,P'≤q→q < L.length→(lst L S q ∨ q=p)→(CG L q).isA=true→F.x q=true→Af Hc' (DG L N q)=true∧hget Hc' (DG L N q)=hget (F.H (q + 1)) (DG L N q)) :
 DSt M L N F c ops.size (S.setIfInBounds (CZ L p) true) (a.put (HO L p) x) P' e' Hc':=by
 have BU:∀ {q},q < L.length→lst L (S.setIfInBounds (CZ L p) true) q→lst L S q ∨ q=p:=fun hq hl=>YD hP.D hp hq hl
 have hnowp:=WC hP.D h.sz hp
 refine ⟨by simpa using h.sz,?_,?_,?_,hPm,hbd,hinv,hsub,?_,?_,?_,?_,?_,?_⟩
 ·intro q hq hl j hj
  rcases BU hq hl with hl | rfl
  ·exact EO (h.cl q hq hl j hj)
  ·exact EO (hbf j hj)
 ·intro q hq
  rcases hpre q hq with hl | rfl
  ·exact EO hl
  ·exact hnowp
 ·intro q h1 h2 h3 h4
  obtain ⟨k1,k2⟩:=hnow q h1 h2 h3
  rcases BU h2 h4 with hl | rfl
  ·exact k1 hl
  ·exact k2 rfl
 ·intro q h1 h2 h3
  exact hal q h1 h2 (BU h2 h3)
 ·have:=h.len
  cases hd:HO L p with
  | none=>simpa [Act.put] using this
  | some i=>simpa [Act.put] using this
 ·intro q hq hl t ht htl
  rw [N9]
  by_cases hpd:HO L p=some t
  ·have:q=p:=hP.D.uni q p t hq hp ht hpd
   subst this
   rw [if_pos ⟨hpd,by rw [h.len];exact htl⟩]
   exact hx
  ·rw [if_neg (fun hc=>hpd hc.1)]
   rcases BU hq hl with hl | rfl
   ·exact GG hle (h.va q hq hl t ht htl)
   ·exact absurd ht hpd
 ·intro t ht
  rw [N9,if_neg (fun hc=>ht p hp hnowp hc.1)]
  exact GG hle (h.vb t (fun q hq hl=>ht q hq (EO hl)))
 ·intro id hid
  rcases hD id hid with hd | hd
  ·rcases h.ids id hd with h1 | ⟨q,h1,h2,h3⟩
   ·exact .inl h1
   ·exact .inr ⟨q,h1,EO h2,h3⟩
  ·exact .inr ⟨p,hp,hnowp,hd⟩
 ·cases HO L p <;> exact h.defs
theorem RZ {A B:List V} {H:Hp} {b:Nat} {k:LK} {C:V→Hp→Prop} (h:∀ t ∈ k.ts,A.getD t .junk=B.getD t .junk) (ho:AX M A H b k C):AX M B H b k C:=by
 unfold AX at *
 cases k with
 | lo o=>simp only at ho ⊢;rw [← FX H b o h];exact ho
 | call f xs=>simp only at ho ⊢;rw [← GQ xs h];exact ho
 | dyn x xs =>
   simp only at ho ⊢
   have hx:x.ev A=x.ev B:=AT fun t ht=>h t (by simp [LK.ts,ht])
   rw [← hx,← GQ xs (fun t ht=>h t (by simp [LK.ts,ht]))];exact ho
theorem Iq {S:Array Bool} {a:Act} {P:Nat} {e:Env} {Hc:Hp} (h:DSt M L N F c ops.size S a P e Hc) {p:Nat} (hp:p < L.length) (hnl:¬ lst L S p):¬ e.D (DG L N p):=by
 intro hd
 rcases h.ids _ hd with h1 | ⟨q,h1,h2,h3,h4⟩
 ·cases hw:(CG L p).isW with
  | true=>rw [HD hw] at h1;omega
  | false=>rw [Eh hw] at h1;omega
 ·have hqp:q ≠ p:=by rintro rfl;exact hnl h2
  cases hw:(CG L p).isW <;> cases hw':(CG L q).isW
  ·rw [Eh hw,Eh hw'] at *;omega
  ·rw [Eh hw,HD hw'] at *;omega
  ·rw [HD hw,Eh hw'] at *;omega
  ·rw [HD hw,HD hw'] at *;omega
theorem Xf {S:Array Bool} {a:Act} {P:Nat} {e:Env} {Hc:Hp} (h:DSt M L N F c ops.size S a P e Hc) {p:Nat} (hPp:P≤p) (hw:(CG L p).isW=true):∀ id,DG L N p≤id→¬ e.D id:=by
 intro id hid hd
 rw [HD hw] at hid
 rcases h.ids _ hd with h1 | ⟨q,h1,h2,h3,h4⟩
 ·omega
 ·cases hw':(CG L q).isW with
  | true =>
    have:q < P:=Nat.lt_of_not_le (fun hle=>h.now q hle h1 hw' h2)
    rw [HD hw'] at h4
    omega
  | false =>
    rw [Eh hw'] at h4
    omega
theorem V7 (hP:Plan M ops L N wm F) {S:Array Bool} {a:Act} {P:Nat} {e:Env} {Hc:Hp} (h:DSt M L N F c ops.size S a P e Hc) {p:Nat} (hp:p < L.length) (hnl:¬ lst L S p) (hbf:∀ j,(BO L p).testBit j=true→lst L S j) :
 ∀ t ∈ (FW L p).ts,RV e ((F.A p).getD t .junk) (a.tmps.getD t undef):=by
 intro t ht
 obtain ⟨o,ho⟩:=hP.D.at' p hp
 by_cases htl:t < (F.A 0).length
 ·by_cases hex:∃ j,j < L.length∧lst L S j∧HO L j=some t
  ·obtain ⟨j,hj,hl,hd⟩:=hex
   rcases ho.ts t ht j hj hd with hb | ⟨_,hb⟩ | rfl
   ·have hjp:=Zw hP.D p p (Nat.le_refl p) hp j hb
    rw [Ph hP hd htl p Aa hjp]
    exact h.va j hj hl t hd htl
   ·exact absurd (h.cl j hj hl p hb) hnl
   ·exact absurd hl hnl
  ·rw [Px hP p Aa ?_]
   ·exact h.vb t (fun q hq hl hd=>hex ⟨q,hq,hl,hd⟩)
   ·intro j hj hd
    rcases ho.ts t ht j Aa hd with hb | ⟨hb,_⟩ | hb
    ·exact hex ⟨j,by omega,hbf j hb,hd⟩
    ·omega
    ·omega
 ·have:(F.A p).getD t .junk = .junk:=by
   rw [List.getD_eq_getElem?_getD,List.getElem?_eq_none (by rw [DR hP p Aa];omega)];rfl
  rw [this];trivial
def GU (A:List V) (ts:List Nat):List V:=(List.range A.length).map (fun t=>if t ∈ ts then A.getD t .junk else .junk)
theorem Nx (A:List V) (ts:List Nat) (t:Nat):(GU A ts).getD t .junk=if t ∈ ts then A.getD t .junk else .junk:=by
 unfold GU
 by_cases h:t < A.length
 ·simp [List.getD,List.getElem?_map,List.getElem?_range h]
 ·have e1:((List.range A.length).map (fun t=>if t ∈ ts then A.getD t .junk else V.junk)).getD t .junk = .junk:=by
   rw [List.getD_eq_getElem?_getD,List.getElem?_eq_none Ke];rfl
  have e2:A.getD t .junk = .junk:=by rw [List.getD_eq_getElem?_getD,List.getElem?_eq_none Aa];rfl
  rw [e1,e2];split <;> rfl
theorem ZK (hP:Plan M ops L N wm F) (hwm:∀ j,wm.testBit j=true→(CG L j).isW=true) {S:Array Bool} {a:Act} {P:Nat} {e:Env} {Hc:Hp} (h:DSt M L N F c ops.size S a P e Hc) {p:Nat} (hp:p < L.length) (hnl:¬ lst L S p)
 (hbf:∀ j,(BO L p).testBit j=true→lst L S j) {Q:Exit→Act→World→Prop} {next:Act→World→Prop}
 (hnext:∀ a' P' e' Hc',DSt M L N F c ops.size (S.setIfInBounds (CZ L p) true) a' P' e' Hc'→next a' e'.w):wpOp M.P ops Q (CZ L p) next a e.w:=by
 obtain ⟨o,ho⟩:=hP.D.at' p hp
 have hpa:=hP.all p hp
 have hPp:P≤p:=Nat.le_of_not_lt (fun hlt=>hnl (h.pre p hlt))
 have hframe:=V7 hP h hp hnl hbf
 have hop:ops[CZ L p]?=some o:=ho.op
 have hwfalse:(CG L p).isW=true→∀ q,P≤q→q < p→lst L S q:=fun hw q _ hq=>hbf q (ho.w hw q hq)
 have hskip:F.x p=false→next (a.put (HO L p) undef) e.w:=by
  intro hx
  obtain ⟨hv,hH⟩:=hpa.skip hx
  have hRV:RV e (F.v p) undef:=by rw [hv];exact ⟨#[],rfl,trivial⟩
  by_cases hw:(CG L p).isW=true
  ·refine hnext _ (p + 1) e Hc (fin hP h hp hbf (Env.le_refl e) (fun id hid=>.inl hid) hRV Aa (fun q hq=>?_) (fun q h1 h2 h3=>⟨h.now q Aa h2 h3,by omega⟩) (by simp [C2,hw]) h.inv ?_ ?_)
   ·by_cases hqP:q < P
    ·exact .inl (h.pre q hqP)
    ·by_cases hqp:q=p
     ·exact .inr hqp
     ·exact .inl (hwfalse hw q Aa Aa)
   ·rw [hH];exact OO hP h p hPp Aa (fun j h1 h2=>hwfalse hw j h1 h2)
   ·intro q h1 h2 h3 h4 h5
    rcases h3 with h3 | rfl
    ·exact h.al q Aa h2 h3 h4 h5
    ·omega
  ·refine hnext _ P e Hc (fin hP h hp hbf (Env.le_refl e) (fun id hid=>.inl hid) hRV h.Pm (fun q hq=>.inl (h.pre q hq)) (fun q h1 h2 h3=>⟨h.now q h1 h2 h3,by rintro rfl;exact hw h3⟩) h.bd h.inv h.sub ?_)
   intro q h1 h2 h3 h4 h5
   rcases h3 with h3 | rfl
   ·exact h.al q h1 h2 h3 h4 h5
   ·rw [hx] at h5;cases h5
 have hdo:F.x p=true→o.wp M.P a e.w next Q:=by
  intro hx
  obtain ⟨hrun,hepk,hids⟩:=hpa.run hx
  have hB:FR e (GU (F.A p) (CG L p).ts) a.tmps:=by
   refine ⟨by rw [h.len,GU,List.length_map,List.length_range,DR hP p Aa],fun t=>?_⟩
   rw [Nx]
   split
   ·rename_i ht;exact hframe t (by unfold LOp.ts;exact List.mem_append_right _ ht)
   ·trivial
  have hmask:∀ t ∈ (CG L p).ts,(F.A p).getD t .junk=(GU (F.A p) (CG L p).ts).getD t .junk:=fun t ht=>by rw [Nx,if_pos ht]
  by_cases hw:(CG L p).isW=true
  ·have hsub:=OO hP h p hPp Aa (fun j h1 h2=>hwfalse hw j h1 h2)
   have hrun':=RZ hmask hrun
   refine PO (c:=⟨e,fun b=>∃ id,Af (F.H p) id=true∧e.ρ id=b,0⟩) (H:=F.H p) (n:=DG L N p) (K:=fun v H'=>v=F.v p∧H'=F.H (p + 1)) (h.inv.narrow hsub) hB (Iq h hp hnl) (fun _=>Xf h hPp hw) (Nat.zero_le _) ho.dst ho.k ?_ ?_
   ·rintro v x H' e' hI' hv hle hD' ⟨rfl,rfl⟩
    obtain ⟨w1,w2⟩:=h.inv.widen hsub hle hI'
    refine hnext _ (p + 1) e' (F.H (p + 1) ++ CT Hc (F.H p)) (fin hP h hp hbf hle hD' hv Aa (fun q hq=>?_) (fun q h1 h2 h3=>⟨h.now q Aa h2 h3,by omega⟩) (by simp [C2,hw]) w1 ?_ ?_)
    ·by_cases hqP:q < P
     ·exact .inl (h.pre q hqP)
     ·by_cases hqp:q=p
      ·exact .inr hqp
      ·exact .inl (hwfalse hw q Aa Aa)
    ·intro id hid
     exact ⟨by rw [Dm,hid];rfl,Ez hid⟩
    ·intro q h1 h2 h3 h4 h5
     rcases h3 with h3 | rfl
     ·obtain ⟨k1,k2⟩:=h.al q Aa h2 h3 h4 h5
      have hno:Af (F.H p) (DG L N q)=false:=by
       cases hh:Af (F.H p) (DG L N q) with
       | false=>rfl
       | true =>
         have:=GD hP p Aa _ hh
         rw [Eh (Aaa h4)] at this
         omega
      have hno':=w2 _ k1 hno
      rw [Dm,Ec hno',D5,DB _ _ hno,k1,hno,k2]
      simp
     ·omega
   ·unfold OpK AX at *
    cases hk:CG L p with
    | lo lo=>rw [hk] at hrun';rw [show DG L N p=bs N L.length p (.lo lo) by rw [DG,hk]];exact hrun'
    | call f xs =>
      rw [hk] at hrun'
      obtain ⟨v,H',h1,rfl,rfl⟩:=hrun'
      rw [show DG L N p=bs N L.length p (.call f xs) by rw [DG,hk]];exact h1
    | dyn y xs =>
      rw [hk] at hrun'
      obtain ⟨v,H',h1,rfl,rfl⟩:=hrun'
      rw [show DG L N p=bs N L.length p (.dyn y xs) by rw [DG,hk]];exact h1
  ·have hw:(CG L p).isW=false:=by simpa using hw
   have hsub:=ZX h hp hbf
   cases hk:CG L p with
   | call f xs=>rw [hk] at hw;cases hw
   | dyn y xs=>rw [hk] at hw;cases hw
   | lo lo =>
   have hbz:(BO L p &&& wm) >>> P=0:=by
    apply Nat.eq_of_testBit_eq
    intro i
    rw [Nat.testBit_shiftRight,Nat.testBit_and,Nat.zero_testBit]
    cases h1:(BO L p).testBit (P + i) with
    | false=>rfl
    | true =>
      cases h2:wm.testBit (P + i) with
      | false=>rfl
      | true =>
        have hlt:=Zw hP.D p p (Nat.le_refl p) hp _ h1
        exact absurd (hbf _ h1) (h.now (P + i) Aa Aa (hwm _ h2))
   have hb:DG L N p=bs N L.length p (.lo lo):=by rw [DG,hk]
   have hpre:(Ae (F.A p) (Mv.hx (BY L N F p) P (BO L p) (F.H P)) (DG L N p) lo).pre∧(Ae (F.A p) (Mv.hx (BY L N F p) P (BO L p) (F.H P)) (DG L N p) lo).v=F.v p:=by
    rw [hk] at hrun hepk
    obtain ⟨k1,k2,_⟩:=hrun
    rw [hb]
    by_cases hpure:LK.isP (.lo lo)=true
    ·obtain ⟨q1,q2⟩:=RJ (F.A p) (Mv.hx (BY L N F p) P (BO L p) (F.H P)) (F.H p) (bs N L.length p (.lo lo)) lo hpure
     rw [q1,q2];exact ⟨k1,k2⟩
    ·simp only [SV] at hepk
     rw [hk] at hw
     rw [show LK.isP (.lo lo)=false by simpa using hpure,hw] at hepk
     exact KY hepk (KX hPp h.bd) hbz
   rw [FX _ _ lo (by rw [hk] at hmask;exact hmask)] at hpre
   refine PO (c:=⟨e,fun b=>∃ id,Af (Mv.hx (BY L N F p) P (BO L p) (F.H P)) id=true∧e.ρ id=b,0⟩) (H:=Mv.hx (BY L N F p) P (BO L p) (F.H P)) (n:=DG L N p) (k:=.lo lo)
    (K:=fun v H'=>v=F.v p∧H'=(Ae (GU (F.A p) (LK.lo lo).ts) (Mv.hx (BY L N F p) P (BO L p) (F.H P)) (DG L N p) lo).H) (h.inv.narrow hsub) (by rw [hk] at hB;exact hB) (Iq h hp hnl) (fun hne=>absurd rfl (hne lo)) (Nat.zero_le _) ho.dst (by rw [← hk];exact ho.k) ?_ ⟨hpre.1,hpre.2,rfl⟩
   rintro v x H' e' hI' hv hle hD' ⟨rfl,hH'⟩
   obtain ⟨w1,w2⟩:=h.inv.widen hsub hle hI'
   have hfresh:=Iq h hp hnl
   have hHcb:Af Hc (DG L N p)=false:=by
    cases hh:Af Hc (DG L N p) with
    | false=>rfl
    | true=>exact absurd (h.inv.blk _ hh).1 hfresh
   have hwl:LK.isW (.lo lo)=false:=by rw [← hk];exact hw
   have hkeep:∀ id,Af Hc id=true→Af (H' ++ CT Hc (Mv.hx (BY L N F p) P (BO L p) (F.H P))) id=true∧hget (H' ++ CT Hc (Mv.hx (BY L N F p) P (BO L p) (F.H P))) id=hget Hc id:=by
    intro id hid
    have hidb:DG L N p ≠ id:=fun he=>by rw [← he,hHcb] at hid;cases hid
    have hH2:Af H' id=Af (Mv.hx (BY L N F p) P (BO L p) (F.H P)) id∧(Af (Mv.hx (BY L N F p) P (BO L p) (F.H P)) id=true→hget H' id=hget (Mv.hx (BY L N F p) P (BO L p) (F.H P)) id):=by
     rw [hH']
     by_cases hA:LK.isA (.lo lo)=true
     ·obtain ⟨cc,hc⟩:=Pu (GU (F.A p) (LK.lo lo).ts) (DG L N p) lo hA ⟨_,hpre.1⟩
      rw [hc]
      simp [Af,hget,hidb]
     ·rw [Ty _ _ _ _ hwl (by simpa using hA)]
      exact ⟨rfl,fun _=>rfl⟩
    cases hh:Af (Mv.hx (BY L N F p) P (BO L p) (F.H P)) id with
    | true =>
      have h1:Af H' id=true:=hH2.1.trans hh
      refine ⟨by rw [Dm,h1];rfl,?_⟩
      rw [Ez h1,hH2.2 hh,(hsub id hh).2]
    | false =>
      have h1:Af H' id=false:=hH2.1.trans hh
      refine ⟨by rw [Dm,h1,D5,hid,hh];rfl,?_⟩
      rw [Ec h1,DB _ _ hh]
   refine hnext _ P e' (H' ++ CT Hc (Mv.hx (BY L N F p) P (BO L p) (F.H P))) (fin hP h hp hbf hle hD' hv h.Pm (fun q hq=>.inl (h.pre q hq)) (fun q h1 h2 h3=>⟨h.now q h1 h2 h3,by rintro rfl;rw [hw] at h3;cases h3⟩) h.bd w1 ?_ ?_)
   ·intro id hid
    obtain ⟨k1,k2⟩:=h.sub id hid
    obtain ⟨q1,q2⟩:=hkeep id k1
    exact ⟨q1,q2.trans k2⟩
   ·intro q h1 h2 h3 h4 h5
    by_cases hqp:q=p
    ·subst hqp
     rw [hk] at h4
     obtain ⟨cc,hc⟩:=Pu (GU (F.A q) (LK.lo lo).ts) (DG L N q) lo h4 ⟨_,hpre.1⟩
     rw [hH',hc]
     rw [hk] at hrun
     obtain ⟨r1,_,r3⟩:=hrun
     rw [FX _ _ lo (by rw [hk] at hmask;exact hmask),← hb,hc] at r3
     rw [← r3]
     simp [Af,hget]
    ·rcases h3 with h3 | h3
     ·obtain ⟨k1,k2⟩:=h.al q h1 h2 h3 h4 h5
      obtain ⟨q1,q2⟩:=hkeep _ k1
      exact ⟨q1,q2.trans k2⟩
     ·exact absurd h3 hqp
 unfold wpOp
 simp only [hop]
 have hg:=hpa.g
 cases hgo:(FW L p).g with
 | none =>
   rw [hgo] at hg
   have hgn:o.guard=none:=by
    have:=ho.g
    rw [hgo] at this
    cases hoo:o.guard with
    | none=>rfl
    | some q=>rw [hoo] at this;simp [N1] at this
   rw [if_pos (by simp [Region.wanted,hgn])]
   exact .inl (hdo hg)
 | some q =>
   obtain ⟨t,b0⟩:=q
   rw [hgo] at hg
   simp only at hg
   have hcg:=ho.g
   rw [hgo] at hcg
   have hwant:=KV hcg a.tmps o rfl
   have hvt:=hframe t (by unfold LOp.ts;rw [hgo];simp)
   have hget:a.tmps.getD t undef=(a.tmps[t]?).getD undef:=B5
   cases hA:(F.A p).getD t .junk <;> rw [hA] at hg hvt <;> simp only at hg
   case bool b' =>
    have hbv:=Ee hvt
    have htv:a.tmps[t]?=some (.bool b'):=by
     rw [hget] at hbv
     cases hq:a.tmps[t]? with
     | none=>rw [hq] at hbv;simp [undef] at hbv
     | some y=>rw [hq] at hbv;simp at hbv;rw [hbv]
    rw [htv] at hwant
    simp only at hwant
    cases hx:F.x p with
    | true =>
      rw [hx] at hg
      rw [if_pos (by rw [hwant];exact hg.symm)]
      exact .inl (hdo hx)
    | false =>
      rw [hx] at hg
      rw [if_neg (by rw [hwant,← hg];simp),ho.dst]
      exact hskip hx
   case tup fs =>
    simp only [RV] at hvt
    obtain ⟨xs,hx,_⟩:=hvt
    have:Region.wanted o (yielded ops a.tmps)=false:=by
     rw [hwant]
     split
     ·rename_i b' hq;rw [hget,hq] at hx;simp at hx
     ·rfl
    rw [if_neg (by rw [this];simp),ho.dst]
    exact hskip hg
def left (n:Nat) (S:Array Bool):Nat:=(List.range n).countP (fun i=>!S.getD i true)
theorem K4 {p q:Nat→Bool}:∀ (l:List Nat),(∀ i ∈ l,q i=true→p i=true)→(∃ i ∈ l,p i=true∧q i=false)→l.countP q < l.countP p
 | [],_,h=>by obtain ⟨i,h,_⟩:=h;simp at h
 | i :: l, hle, h => by
   have hmono:l.countP q≤l.countP p:=List.countP_mono_left (fun j hj hq=>hle j (by simp [hj]) hq)
   obtain ⟨j,hj,h1,h2⟩:=h
   rcases List.mem_cons.1 hj with rfl | hj
   ·rw [List.countP_cons,List.countP_cons,h1,h2]
    simp;omega
   ·have ih:=K4 l (fun j hj hq=>hle j (by simp [hj]) hq) ⟨j,hj,h1,h2⟩
    have hi:=hle i B5
    rw [List.countP_cons,List.countP_cons]
    cases hq:q i with
    | true=>rw [hi hq];simp;omega
    | false=>cases hp:p i <;> simp <;> omega
theorem Aeh (hP:Plan M ops L N wm F) (hwm:∀ j,wm.testBit j=true→(CG L j).isW=true) {Q:Exit→Act→World→Prop}
 (hend:∀ S a P e Hc,DSt M L N F c ops.size S a P e Hc→(∀ p,p < L.length→lst L S p)→Q .normal a e.w) :
 ∀ (fuel:Nat) (S:Array Bool) (a:Act) (P:Nat) (e:Env) (Hc:Hp),DSt M L N F c ops.size S a P e Hc→left ops.size S≤fuel→wpAny M.P .any ops Q fuel S a e.w:=by
 have hready:∀ (S:Array Bool) (a:Act) (P:Nat) (e:Env) (Hc:Hp),DSt M L N F c ops.size S a P e Hc→Region.ready .any ops S=[]→∀ p,p < L.length→lst L S p:=by
  intro S a P e Hc h hr
  have key:∀ n p,p≤n→p < L.length→lst L S p:=by
   intro n
   induction n using Nat.strongRecOn with
   | _ n ih =>
     intro p hp hl
     obtain ⟨o,ho⟩:=hP.D.at' p hl
     have hop:ops[CZ L p]?=some o:=ho.op
     have hix:=Zg hP.D hl
     cases hn:S.getD (CZ L p) false with
     | true=>exact hn
     | false =>
       have hmem:CZ L p ∈ Region.ready .any ops S:=by
        unfold Region.ready
        rw [List.mem_filter]
        refine ⟨List.mem_range.2 hix,?_⟩
        have hsz:=h.sz
        have hgt:S.getD (CZ L p) true=false:=by
         have hlt:CZ L p < S.size:=Aa
         simp [hlt] at hn ⊢;exact hn
        rw [hgt,hop]
        simp only [Bool.not_false,Option.map_some,Option.getD_some,Bool.true_and,Array.all_eq_true]
        intro i hi
        have hmem':o.after[i] ∈ o.after.toList:=B5
        cases hb:Region.binds .any o.after[i] with
        | false=>simp
        | true =>
          have hlt:=ho.lt _ hmem' hb
          have hl':=ih (BD L o.after[i].on) Aa (BD L o.after[i].on) (Nat.le_refl _) Aa
          unfold lst at hl'
          have he:CZ L (BD L o.after[i].on)=o.after[i].on:=JH Aa
          rw [he] at hl'
          simp only [Bool.not_true,Bool.false_or];exact hl'
       rw [hr] at hmem
       simp at hmem
  exact fun p hp=>key p p (Nat.le_refl p) hp
 intro fuel
 induction fuel with
 | zero =>
   intro S a P e Hc h hf
   have hr:Region.ready .any ops S=[]:=by
    unfold Region.ready
    rw [List.filter_eq_nil_iff]
    intro i hi
    have:left ops.size S=0:=Aa
    unfold left at this
    rw [List.countP_eq_zero] at this
    have:=this i hi
    simp only [Bool.not_eq_true,Bool.not_eq_false'] at this
    rw [this];simp
   exact ⟨hr,hend S a P e Hc h (hready S a P e Hc h hr)⟩
 | succ fuel ih =>
   intro S a P e Hc h hf
   refine ⟨fun hr=>hend S a P e Hc h (hready S a P e Hc h hr),fun i hi=>?_⟩
   unfold Region.ready at hi
   rw [List.mem_filter] at hi
   obtain ⟨h1,h2⟩:=hi
   have hin:=List.mem_range.1 h1
   have hpl:=hP.D.all i hin
   obtain ⟨o,ho⟩:=hP.D.at' _ hpl
   have hix:CZ L (BD L i)=i:=JH hpl
   have hop:ops[i]?=some o:=by rw [← hix];exact ho.op
   simp only [Ww] at h2
   obtain ⟨h2,h3⟩:=h2
   rw [hop] at h3
   simp only [Option.map_some,Option.getD_some,Array.all_eq_true] at h3
   have hsz:=h.sz
   have hnl:¬ lst L S (BD L i):=by
    unfold lst;rw [hix]
    have hlt:i < S.size:=Aa
    simp [hlt] at h2 ⊢;exact h2
   have hedge:∀ e ∈ o.after.toList,Region.binds .any e=true→lst L S (BD L e.on):=by
    intro e he hb
    obtain ⟨k,hk,rfl⟩:=List.mem_iff_getElem.1 he
    have:=h3 k (by simpa using hk)
    have hlt:=ho.lt _ he hb
    unfold lst
    rw [show CZ L (BD L (o.after.toList[k]).on)=(o.after.toList[k]).on from JH Aa]
    simp only [Array.getElem_toList] at hb ⊢
    rw [hb] at this
    simpa using this
   have hbf:∀ j,(BO L (BD L i)).testBit j=true→lst L S j:=by
    intro j hj
    obtain ⟨e,he,hb,hh⟩:=ho.bf j hj
    have hl:=hedge e he hb
    rcases hh with rfl | hh
    ·exact hl
    ·exact h.cl _ (by have:=ho.lt e he hb;omega) hl j hh
   have:=ZK hP hwm h hpl hnl hbf (Q:=Q) (next:=wpAny M.P .any ops Q fuel (S.setIfInBounds i true)) (fun a' P' e' Hc' h'=>by
    rw [hix] at h'
    refine ih _ a' P' e' Hc' h' ?_
    have hlt:left ops.size (S.setIfInBounds i true) < left ops.size S:=by
     unfold left
     refine K4 _ (fun j hj hq=>?_) ⟨i,h1,?_,?_⟩
     ·have hjl:=List.mem_range.1 hj
      by_cases hij:i=j
      ·subst hij;simp [hsz,hin] at hq
      ·have hjs:j < S.size:=Aa
       simp [hjs,Array.getElem_setIfInBounds_ne,hij] at hq ⊢;exact hq
     ·rw [h2];rfl
     ·simp [hsz,hin]
    omega)
   rw [hix] at this
   exact this
theorem SE {K:List V→Hp→Prop} {A:List V} {H:Hp} {e:Env} {a:Act} {Q:Exit→Act→World→Prop} (hc:Xy M ops L=true) (hI:Inv M c e H) (hA:FR e A a.tmps) (hD:∀ id,N≤id→¬ e.D id) (hdef:a.defers=[])
 (hwm:∀ j,wm.testBit j=true→(CG L j).isW=true)
 (hK:∀ A' H' a' e',Inv M c e' H'→FR e' A' a'.tmps→(∀ id,N + 32 * L.length≤id→¬ e'.D id)→a'.defers=[]→K A' H'→Q .normal a' e'.w)
 (h:AJ M K L.length N wm L 0 A H [(0,H)] []):wpAny M.P .any ops Q ops.size (Array.replicate ops.size false) a e.w:=by
 have hDF:=JQ hc
 obtain ⟨F,hs,hall,hKF⟩:=NB (K:=K) (L:=L) L 0 { A:=fun _=>A,H:=fun _=>H,x:=fun _=>false,v:=fun _=>.junk } (fun i=>by simp) B5 (by simpa [C2,BY] using h)
 have hA0:F.A 0=A:=hs.A 0 (Nat.le_refl 0)
 have hH0:F.H 0=H:=hs.H 0 (Nat.le_refl 0)
 have hP:Plan M ops L N wm F:=⟨hDF,fun p hp=>hall p (Nat.zero_le p) hp,fun id hid=>by
  rw [hH0] at hid
  exact Nat.lt_of_not_le (fun hle=>hD id hle (hI.blk id hid).1)⟩
 have hno:∀ p,¬ lst L (Array.replicate ops.size false) p:=fun p hl=>by
  unfold lst at hl
  by_cases hlt:CZ L p < ops.size
  ·simp [hlt] at hl
  ·simp [hlt] at hl
 have h0:DSt M L N F c ops.size (Array.replicate ops.size false) a 0 e H:=by
  refine ⟨by simp,fun p _ hl=>absurd hl (hno p),fun p hp=>absurd hp (Nat.not_lt_zero _),fun p _ _ _=>hno p,Nat.zero_le _,by simp [C2],hI,fun id hid=>?_,fun p _ _ hl=>absurd hl (hno p),by rw [hA0];exact hA.len,fun p _ hl=>absurd hl (hno p),fun t _=>by rw [hA0];exact hA.val t,fun id hid=>.inl (Nat.lt_of_not_le (fun hle=>hD id hle hid)),hdef⟩
  rw [hH0] at hid ⊢
  exact ⟨hid,rfl⟩
 refine Aeh hP hwm (fun S a' P e' Hc hst hl=>?_) ops.size _ a 0 e H h0 (by
  unfold left
  exact Nat.le_trans List.countP_le_length B5)
 have hsub:=OO hP hst L.length hst.Pm (Nat.le_refl _) (fun j _ hj=>hl j hj)
 refine hK (F.A L.length) (F.H L.length) a' e' (hst.inv.sub hsub) ⟨by rw [hst.len,DR hP _ (Nat.le_refl _)],fun t=>?_⟩ (fun id hid hd=>?_) hst.defs hKF
 ·by_cases htl:t < (F.A 0).length
  ·by_cases hex:∃ j,j < L.length∧HO L j=some t
   ·obtain ⟨j,hj,hd⟩:=hex
    rw [Ph hP hd htl L.length (Nat.le_refl _) hj]
    exact hst.va j hj (hl j hj) t hd htl
   ·rw [Px hP L.length (Nat.le_refl _) (fun j hj hd=>hex ⟨j,hj,hd⟩)]
    exact hst.vb t (fun q hq _ hd=>hex ⟨q,hq,hd⟩)
  ·have:(F.A L.length).getD t .junk = .junk:=by
    rw [List.getD_eq_getElem?_getD,List.getElem?_eq_none (by rw [DR hP _ (Nat.le_refl _)];omega)];rfl
   rw [this];trivial
 ·rcases hst.ids id hd with h1 | ⟨q,h1,_,_,h4⟩
  ·omega
  ·cases hw:(CG L q).isW with
   | true=>rw [HD hw] at h4;omega
   | false=>rw [Eh hw] at h4;omega
def F5:List DOp→Nat→Nat
 | [],_=>0
 | d :: r,p=>(if d.o.k.isW then 2 ^ p else 0) ||| F5 r (p + 1)
theorem K3:∀ (L:List DOp) (p j:Nat),(F5 L p).testBit j=true→p≤j∧(CG L (j - p)).isW=true
 | [],_,_,h=>by simp [F5] at h
 | d :: r, p, j, h => by
   simp only [F5,Nat.testBit_or,Bool.or_eq_true] at h
   rcases h with h | h
   ·split at h
    ·rename_i hw
     rw [Nat.testBit_two_pow] at h
     have:p=j:=Ke
     subst this
     exact ⟨Nat.le_refl _,by simpa [CG,FW] using hw⟩
    ·simp at h
   ·obtain ⟨h1,h2⟩:=K3 r (p + 1) j h
    refine ⟨by omega,?_⟩
    have e1:j - p=(j - (p + 1)) + 1:=Aa
    rw [e1]
    simpa [CG,FW] using h2
end
end Mv
