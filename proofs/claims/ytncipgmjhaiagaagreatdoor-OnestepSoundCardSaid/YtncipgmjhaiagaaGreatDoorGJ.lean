/- A part. -/
import Derived.Test.YtncipgmjhaiagaaGreatDoorGI
set_option linter.all false
namespace Mv
open Go
section
variable {M:Seat} {ops:Array Oper} {L:List DOp} {N wm:Nat} {F:Pl} {c:Ctx}
theorem FE {S:Array Bool} {i q:Nat} (h:lst L S q):lst L (S.setIfInBounds i true) q:=by
 unfold lst at *
 by_cases hi:i=D4 L q
 ·subst hi
  by_cases hl:D4 L q < S.size
  ·simp [hl]
  ·simp [hl] at h
 ·simpa [Array.getElem?_setIfInBounds_ne hi] using h
theorem Ah6 (hD:DFacts M ops L) {p q:Nat} (hp:p < L.length) (hq:q < L.length) (h:D4 L p=D4 L q):p=q:=by
 obtain ⟨o,ho⟩:=hD.at' p hp
 obtain ⟨o',ho'⟩:=hD.at' q hq
 rw [← ho.pos,← ho'.pos]
 exact congrArg _ h
theorem Adc (hD:DFacts M ops L) {p:Nat} (hp:p < L.length):D4 L p < ops.size:=by
 obtain ⟨o,ho⟩:=hD.at' p hp
 exact (Array.getElem?_eq_some_iff.1 ho.op).1
theorem Z7 (hD:DFacts M ops L) {S:Array Bool} {p q:Nat} (hp:p < L.length) (hq:q < L.length) (h:lst L (S.setIfInBounds (D4 L p) true) q):lst L S q ∨ q=p:=by
 by_cases hpq:q=p
 ·exact .inr hpq
 ·left
  unfold lst at *
  have hne:D4 L p ≠ D4 L q:=fun he=>hpq (Ah6 hD hq hp he.symm)
  simpa [Array.getElem?_setIfInBounds_ne hne] using h
theorem Aaz (hD:DFacts M ops L) {S:Array Bool} (hS:S.size=ops.size) {p:Nat} (hp:p < L.length):lst L (S.setIfInBounds (D4 L p) true) p:=by
 have:=Adc hD hp
 unfold lst
 simp [hS,this]
theorem fin (hP:Plan M ops L N wm F) {S:Array Bool} {a:Act} {P:Nat} {e:Env} {Hc:Hp} (h:DSt M L N F c ops.size S a P e Hc) {p:Nat} (hp:p < L.length) (hbf:∀ j,(BW L p).testBit j=true→lst L S j)
 {e':Env} (hle:e.le e') (hD:∀ id,e'.D id→e.D id ∨ (Ej L N p≤id∧id < Ej L N p + 16)) {x:Value} (hx:RV e' (F.v p) x) {P':Nat} {Hc':Hp}
 (hPm:P'≤L.length) (hpre:∀ q,q < P'→lst L S q ∨ q=p) (hnow:∀ q,P'≤q→q < L.length→(Dj L q).isW=true→¬ lst L S q∧q ≠ p) (hbd:(P',F.H P') ∈ CT L F P') (hinv:Inv M c e' Hc') (hsub:Sub (F.H P') Hc')
 (hal:∀ q,P'≤q→q < L.length→(lst L S q ∨ q=p)→(Dj L q).isA=true→F.x q=true→Ae Hc' (Ej L N q)=true∧hget Hc' (Ej L N q)=hget (F.H (q + 1)) (Ej L N q)) :
 DSt M L N F c ops.size (S.setIfInBounds (D4 L p) true) (a.put (Jj L p) x) P' e' Hc':=by
 have Ch:∀ {q},q < L.length→lst L (S.setIfInBounds (D4 L p) true) q→lst L S q ∨ q=p:=fun hq hl=>Z7 hP.D hp hq hl
 have hnowp:=Aaz hP.D h.sz hp
 refine ⟨by simpa using h.sz,?_,?_,?_,hPm,hbd,hinv,hsub,?_,?_,?_,?_,?_,?_⟩
 ·intro q hq hl j hj
  rcases Ch hq hl with hl | rfl
  ·exact FE (h.cl q hq hl j hj)
  ·exact FE (hbf j hj)
 ·intro q hq
  rcases hpre q hq with hl | rfl
  ·exact FE hl
  ·exact hnowp
 ·intro q h1 h2 h3 h4
  obtain ⟨k1,k2⟩:=hnow q h1 h2 h3
  rcases Ch h2 h4 with hl | rfl
  ·exact k1 hl
  ·exact k2 rfl
 ·intro q h1 h2 h3
  exact hal q h1 h2 (Ch h2 h3)
 ·have:=h.len
  cases hd:Jj L p with
  | none=>simpa [Act.put] using this
  | some i=>simpa [Act.put] using this
 ·intro q hq hl t ht htl
  rw [Pk]
  by_cases hpd:Jj L p=some t
  ·have:q=p:=hP.D.uni q p t hq hp ht hpd
   subst this
   rw [if_pos ⟨hpd,by rw [h.len];exact htl⟩]
   exact hx
  ·rw [if_neg (fun hc=>hpd hc.1)]
   rcases Ch hq hl with hl | rfl
   ·exact HN hle (h.va q hq hl t ht htl)
   ·exact absurd ht hpd
 ·intro t ht
  rw [Pk,if_neg (fun hc=>ht p hp hnowp hc.1)]
  exact HN hle (h.vb t (fun q hq hl=>ht q hq (FE hl)))
 ·intro id hid
  rcases hD id hid with hd | hd
  ·rcases h.ids id hd with h1 | ⟨q,h1,h2,h3⟩
   ·exact .inl h1
   ·exact .inr ⟨q,h1,FE h2,h3⟩
  ·exact .inr ⟨p,hp,hnowp,hd⟩
 ·cases Jj L p <;> exact h.defs
theorem TL {A B:List V} {H:Hp} {b:Nat} {k:LK} {C:V→Hp→Prop} (h:∀ t ∈ k.ts,A.getD t .junk=B.getD t .junk) (ho:A5 M A H b k C):A5 M B H b k C:=by
 unfold A5 at *
 cases k with
 | lo o=>simp only at ho ⊢;rw [← GB H b o h];exact ho
 | call f xs=>simp only at ho ⊢;rw [← IA xs h];exact ho
 | dyn x xs =>
   simp only at ho ⊢
   have hx:x.ev A=x.ev B:=Bi fun t ht=>h t (by simp [LK.ts,ht])
   rw [← hx,← IA xs (fun t ht=>h t (by simp [LK.ts,ht]))];exact ho
theorem Kz {S:Array Bool} {a:Act} {P:Nat} {e:Env} {Hc:Hp} (h:DSt M L N F c ops.size S a P e Hc) {p:Nat} (hp:p < L.length) (hnl:¬ lst L S p):¬ e.D (Ej L N p):=by
 intro hd
 rcases h.ids _ hd with h1 | ⟨q,h1,h2,h3,h4⟩
 ·cases hw:(Dj L p).isW with
  | true=>rw [IS hw] at h1;omega
  | false=>rw [ET hw] at h1;omega
 ·have hqp:q ≠ p:=by rintro rfl;exact hnl h2
  cases hw:(Dj L p).isW <;> cases hw':(Dj L q).isW
  ·rw [ET hw,ET hw'] at *;omega
  ·rw [ET hw,IS hw'] at *;omega
  ·rw [IS hw,ET hw'] at *;omega
  ·rw [IS hw,IS hw'] at *;omega
theorem Abp {S:Array Bool} {a:Act} {P:Nat} {e:Env} {Hc:Hp} (h:DSt M L N F c ops.size S a P e Hc) {p:Nat} (hPp:P≤p) (hw:(Dj L p).isW=true):∀ id,Ej L N p≤id→¬ e.D id:=by
 intro id hid hd
 rw [IS hw] at hid
 rcases h.ids _ hd with h1 | ⟨q,h1,h2,h3,h4⟩
 ·omega
 ·cases hw':(Dj L q).isW with
  | true =>
    have:q < P:=Nat.lt_of_not_le (fun hle=>h.now q hle h1 hw' h2)
    rw [IS hw'] at h4
    omega
  | false =>
    rw [ET hw'] at h4
    omega
theorem Wf (hP:Plan M ops L N wm F) {S:Array Bool} {a:Act} {P:Nat} {e:Env} {Hc:Hp} (h:DSt M L N F c ops.size S a P e Hc) {p:Nat} (hp:p < L.length) (hnl:¬ lst L S p) (hbf:∀ j,(BW L p).testBit j=true→lst L S j) :
 ∀ t ∈ (GP L p).ts,RV e ((F.A p).getD t .junk) (a.tmps.getD t undef):=by
 intro t ht
 obtain ⟨o,ho⟩:=hP.D.at' p hp
 by_cases htl:t < (F.A 0).length
 ·by_cases hex:∃ j,j < L.length∧lst L S j∧Jj L j=some t
  ·obtain ⟨j,hj,hl,hd⟩:=hex
   rcases ho.ts t ht j hj hd with hb | ⟨_,hb⟩ | rfl
   ·have hjp:=Ado hP.D p p (Nat.le_refl p) hp j hb
    rw [QO hP hd htl p Aa hjp]
    exact h.va j hj hl t hd htl
   ·exact absurd (h.cl j hj hl p hb) hnl
   ·exact absurd hl hnl
  ·rw [Ra hP p Aa ?_]
   ·exact h.vb t (fun q hq hl hd=>hex ⟨q,hq,hl,hd⟩)
   ·intro j hj hd
    rcases ho.ts t ht j Aa hd with hb | ⟨hb,_⟩ | hb
    ·exact hex ⟨j,by omega,hbf j hb,hd⟩
    ·omega
    ·omega
 ·have:(F.A p).getD t .junk = .junk:=by
   rw [List.getD_eq_getElem?_getD,List.getElem?_eq_none (by rw [E6 hP p Aa];omega)];rfl
  rw [this];trivial
def Is (A:List V) (ts:List Nat):List V:=(List.range A.length).map (fun t=>if t ∈ ts then A.getD t .junk else .junk)
theorem O3 (A:List V) (ts:List Nat) (t:Nat):(Is A ts).getD t .junk=if t ∈ ts then A.getD t .junk else .junk:=by
 unfold Is
 by_cases h:t < A.length
 ·simp [List.getD,List.getElem?_map,List.getElem?_range h]
 ·have e1:((List.range A.length).map (fun t=>if t ∈ ts then A.getD t .junk else V.junk)).getD t .junk = .junk:=by
   rw [List.getD_eq_getElem?_getD,List.getElem?_eq_none Jk];rfl
  have e2:A.getD t .junk = .junk:=by rw [List.getD_eq_getElem?_getD,List.getElem?_eq_none Aa];rfl
  rw [e1,e2];split <;> rfl
theorem Agn (hP:Plan M ops L N wm F) (hwm:∀ j,wm.testBit j=true→(Dj L j).isW=true) {S:Array Bool} {a:Act} {P:Nat} {e:Env} {Hc:Hp} (h:DSt M L N F c ops.size S a P e Hc) {p:Nat} (hp:p < L.length) (hnl:¬ lst L S p)
 (hbf:∀ j,(BW L p).testBit j=true→lst L S j) {Q:Exit→Act→World→Prop} {next:Act→World→Prop}
 (hnext:∀ a' P' e' Hc',DSt M L N F c ops.size (S.setIfInBounds (D4 L p) true) a' P' e' Hc'→next a' e'.w):wpOp M.P ops Q (D4 L p) next a e.w:=by
 obtain ⟨o,ho⟩:=hP.D.at' p hp
 have hpa:=hP.all p hp
 have hPp:P≤p:=Nat.le_of_not_lt (fun hlt=>hnl (h.pre p hlt))
 have hframe:=Wf hP h hp hnl hbf
 have hop:ops[D4 L p]?=some o:=ho.op
 have hwfalse:(Dj L p).isW=true→∀ q,P≤q→q < p→lst L S q:=fun hw q _ hq=>hbf q (ho.w hw q hq)
 have hskip:F.x p=false→next (a.put (Jj L p) undef) e.w:=by
  intro hx
  obtain ⟨hv,hH⟩:=hpa.skip hx
  have hRV:RV e (F.v p) undef:=by rw [hv];exact ⟨#[],rfl,trivial⟩
  by_cases hw:(Dj L p).isW=true
  ·refine hnext _ (p + 1) e Hc (fin hP h hp hbf (Env.le_refl e) (fun id hid=>.inl hid) hRV Aa (fun q hq=>?_) (fun q h1 h2 h3=>⟨h.now q Aa h2 h3,by omega⟩) (by simp [CT,hw]) h.inv ?_ ?_)
   ·by_cases hqP:q < P
    ·exact .inl (h.pre q hqP)
    ·by_cases hqp:q=p
     ·exact .inr hqp
     ·exact .inl (hwfalse hw q Aa Aa)
   ·rw [hH];exact R8 hP h p hPp Aa (fun j h1 h2=>hwfalse hw j h1 h2)
   ·intro q h1 h2 h3 h4 h5
    rcases h3 with h3 | rfl
    ·exact h.al q Aa h2 h3 h4 h5
    ·omega
  ·refine hnext _ P e Hc (fin hP h hp hbf (Env.le_refl e) (fun id hid=>.inl hid) hRV h.Pm (fun q hq=>.inl (h.pre q hq)) (fun q h1 h2 h3=>⟨h.now q h1 h2 h3,by rintro rfl;exact hw h3⟩) h.bd h.inv h.sub ?_)
   intro q h1 h2 h3 h4 h5
   rcases h3 with h3 | rfl
   ·exact h.al q h1 h2 h3 h4 h5
   ·rw [hx] at h5;cases h5
 have hdo:F.x p=true→o.wp M.P a e.w next Q:=by
  intro hx
  obtain ⟨hrun,hepk,hids⟩:=hpa.run hx
  have hB:FR e (Is (F.A p) (Dj L p).ts) a.tmps:=by
   refine ⟨by rw [h.len,Is,List.length_map,List.length_range,E6 hP p Aa],fun t=>?_⟩
   rw [O3]
   split
   ·rename_i ht;exact hframe t (by unfold LOp.ts;exact List.mem_append_right _ ht)
   ·trivial
  have hmask:∀ t ∈ (Dj L p).ts,(F.A p).getD t .junk=(Is (F.A p) (Dj L p).ts).getD t .junk:=fun t ht=>by rw [O3,if_pos ht]
  by_cases hw:(Dj L p).isW=true
  ·have hsub:=R8 hP h p hPp Aa (fun j h1 h2=>hwfalse hw j h1 h2)
   have hrun':=TL hmask hrun
   refine Rv (c:=⟨e,fun b=>∃ id,Ae (F.H p) id=true∧e.ρ id=b,0⟩) (H:=F.H p) (n:=Ej L N p) (K:=fun v H'=>v=F.v p∧H'=F.H (p + 1)) (h.inv.narrow hsub) hB (Kz h hp hnl) (fun _=>Abp h hPp hw) (Nat.zero_le _) ho.dst ho.k ?_ ?_
   ·rintro v x H' e' hI' hv hle hD' ⟨rfl,rfl⟩
    obtain ⟨w1,w2⟩:=h.inv.widen hsub hle hI'
    refine hnext _ (p + 1) e' (F.H (p + 1) ++ Dt Hc (F.H p)) (fin hP h hp hbf hle hD' hv Aa (fun q hq=>?_) (fun q h1 h2 h3=>⟨h.now q Aa h2 h3,by omega⟩) (by simp [CT,hw]) w1 ?_ ?_)
    ·by_cases hqP:q < P
     ·exact .inl (h.pre q hqP)
     ·by_cases hqp:q=p
      ·exact .inr hqp
      ·exact .inl (hwfalse hw q Aa Aa)
    ·intro id hid
     exact ⟨by rw [DL,hid];rfl,EB hid⟩
    ·intro q h1 h2 h3 h4 h5
     rcases h3 with h3 | rfl
     ·obtain ⟨k1,k2⟩:=h.al q Aa h2 h3 h4 h5
      have hno:Ae (F.H p) (Ej L N q)=false:=by
       cases hh:Ae (F.H p) (Ej L N q) with
       | false=>rfl
       | true =>
         have:=Hw hP p Aa _ hh
         rw [ET (Ad8 h4)] at this
         omega
      have hno':=w2 _ k1 hno
      rw [DL,EL hno',DU,DT _ _ hno,k1,hno,k2]
      simp
     ·omega
   ·unfold OpK A5 at *
    cases hk:Dj L p with
    | lo lo=>rw [hk] at hrun';rw [show Ej L N p=bs N L.length p (.lo lo) by rw [Ej,hk]];exact hrun'
    | call f xs =>
      rw [hk] at hrun'
      obtain ⟨v,H',h1,rfl,rfl⟩:=hrun'
      rw [show Ej L N p=bs N L.length p (.call f xs) by rw [Ej,hk]];exact h1
    | dyn y xs =>
      rw [hk] at hrun'
      obtain ⟨v,H',h1,rfl,rfl⟩:=hrun'
      rw [show Ej L N p=bs N L.length p (.dyn y xs) by rw [Ej,hk]];exact h1
  ·have hw:(Dj L p).isW=false:=by simpa using hw
   have hsub:=Afz h hp hbf
   cases hk:Dj L p with
   | call f xs=>rw [hk] at hw;cases hw
   | dyn y xs=>rw [hk] at hw;cases hw
   | lo lo =>
   have hbz:(BW L p &&& wm) >>> P=0:=by
    apply Nat.eq_of_testBit_eq
    intro i
    rw [Nat.testBit_shiftRight,Nat.testBit_and,Nat.zero_testBit]
    cases h1:(BW L p).testBit (P + i) with
    | false=>rfl
    | true =>
      cases h2:wm.testBit (P + i) with
      | false=>rfl
      | true =>
        have hlt:=Ado hP.D p p (Nat.le_refl p) hp _ h1
        exact absurd (hbf _ h1) (h.now (P + i) Aa Aa (hwm _ h2))
   have hb:Ej L N p=bs N L.length p (.lo lo):=by rw [Ej,hk]
   have hpre:(Ad (F.A p) (Mv.hx (Cj L N F p) P (BW L p) (F.H P)) (Ej L N p) lo).pre∧(Ad (F.A p) (Mv.hx (Cj L N F p) P (BW L p) (F.H P)) (Ej L N p) lo).v=F.v p:=by
    rw [hk] at hrun hepk
    obtain ⟨k1,k2,_⟩:=hrun
    rw [hb]
    by_cases hpure:LK.isP (.lo lo)=true
    ·obtain ⟨q1,q2⟩:=UQ (F.A p) (Mv.hx (Cj L N F p) P (BW L p) (F.H P)) (F.H p) (bs N L.length p (.lo lo)) lo hpure
     rw [q1,q2];exact ⟨k1,k2⟩
    ·simp only [TZ] at hepk
     rw [hk] at hw
     rw [show LK.isP (.lo lo)=false by simpa using hpure,hw] at hepk
     exact M5 hepk (M2 hPp h.bd) hbz
   rw [GB _ _ lo (by rw [hk] at hmask;exact hmask)] at hpre
   refine Rv (c:=⟨e,fun b=>∃ id,Ae (Mv.hx (Cj L N F p) P (BW L p) (F.H P)) id=true∧e.ρ id=b,0⟩) (H:=Mv.hx (Cj L N F p) P (BW L p) (F.H P)) (n:=Ej L N p) (k:=.lo lo)
    (K:=fun v H'=>v=F.v p∧H'=(Ad (Is (F.A p) (LK.lo lo).ts) (Mv.hx (Cj L N F p) P (BW L p) (F.H P)) (Ej L N p) lo).H) (h.inv.narrow hsub) (by rw [hk] at hB;exact hB) (Kz h hp hnl) (fun hne=>absurd rfl (hne lo)) (Nat.zero_le _) ho.dst (by rw [← hk];exact ho.k) ?_ ⟨hpre.1,hpre.2,rfl⟩
   rintro v x H' e' hI' hv hle hD' ⟨rfl,hH'⟩
   obtain ⟨w1,w2⟩:=h.inv.widen hsub hle hI'
   have hfresh:=Kz h hp hnl
   have hHcb:Ae Hc (Ej L N p)=false:=by
    cases hh:Ae Hc (Ej L N p) with
    | false=>rfl
    | true=>exact absurd (h.inv.blk _ hh).1 hfresh
   have hwl:LK.isW (.lo lo)=false:=by rw [← hk];exact hw
   have hkeep:∀ id,Ae Hc id=true→Ae (H' ++ Dt Hc (Mv.hx (Cj L N F p) P (BW L p) (F.H P))) id=true∧hget (H' ++ Dt Hc (Mv.hx (Cj L N F p) P (BW L p) (F.H P))) id=hget Hc id:=by
    intro id hid
    have hidb:Ej L N p ≠ id:=fun he=>by rw [← he,hHcb] at hid;cases hid
    have hH2:Ae H' id=Ae (Mv.hx (Cj L N F p) P (BW L p) (F.H P)) id∧(Ae (Mv.hx (Cj L N F p) P (BW L p) (F.H P)) id=true→hget H' id=hget (Mv.hx (Cj L N F p) P (BW L p) (F.H P)) id):=by
     rw [hH']
     by_cases hA:LK.isA (.lo lo)=true
     ·obtain ⟨cc,hc⟩:=RK (Is (F.A p) (LK.lo lo).ts) (Ej L N p) lo hA ⟨_,hpre.1⟩
      rw [hc]
      simp [Ae,hget,hidb]
     ·rw [Wt _ _ _ _ hwl (by simpa using hA)]
      exact ⟨rfl,fun _=>rfl⟩
    cases hh:Ae (Mv.hx (Cj L N F p) P (BW L p) (F.H P)) id with
    | true =>
      have h1:Ae H' id=true:=hH2.1.trans hh
      refine ⟨by rw [DL,h1];rfl,?_⟩
      rw [EB h1,hH2.2 hh,(hsub id hh).2]
    | false =>
      have h1:Ae H' id=false:=hH2.1.trans hh
      refine ⟨by rw [DL,h1,DU,hid,hh];rfl,?_⟩
      rw [EL h1,DT _ _ hh]
   refine hnext _ P e' (H' ++ Dt Hc (Mv.hx (Cj L N F p) P (BW L p) (F.H P))) (fin hP h hp hbf hle hD' hv h.Pm (fun q hq=>.inl (h.pre q hq)) (fun q h1 h2 h3=>⟨h.now q h1 h2 h3,by rintro rfl;rw [hw] at h3;cases h3⟩) h.bd w1 ?_ ?_)
   ·intro id hid
    obtain ⟨k1,k2⟩:=h.sub id hid
    obtain ⟨q1,q2⟩:=hkeep id k1
    exact ⟨q1,q2.trans k2⟩
   ·intro q h1 h2 h3 h4 h5
    by_cases hqp:q=p
    ·subst hqp
     rw [hk] at h4
     obtain ⟨cc,hc⟩:=RK (Is (F.A q) (LK.lo lo).ts) (Ej L N q) lo h4 ⟨_,hpre.1⟩
     rw [hH',hc]
     rw [hk] at hrun
     obtain ⟨r1,_,r3⟩:=hrun
     rw [GB _ _ lo (by rw [hk] at hmask;exact hmask),← hb,hc] at r3
     rw [← r3]
     simp [Ae,hget]
    ·rcases h3 with h3 | h3
     ·obtain ⟨k1,k2⟩:=h.al q h1 h2 h3 h4 h5
      obtain ⟨q1,q2⟩:=hkeep _ k1
      exact ⟨q1,q2.trans k2⟩
     ·exact absurd h3 hqp
 unfold wpOp
 simp only [hop]
 have hg:=hpa.g
 cases hgo:(GP L p).g with
 | none =>
   rw [hgo] at hg
   have hgn:o.guard=none:=by
    have:=ho.g
    rw [hgo] at this
    cases hoo:o.guard with
    | none=>rfl
    | some q=>rw [hoo] at this;simp [OI] at this
   rw [if_pos (by simp [Region.wanted,hgn])]
   exact .inl (hdo hg)
 | some q =>
   obtain ⟨t,b0⟩:=q
   rw [hgo] at hg
   simp only at hg
   have hcg:=ho.g
   rw [hgo] at hcg
   have hwant:=Mn hcg a.tmps o rfl
   have hvt:=hframe t (by unfold LOp.ts;rw [hgo];simp)
   have hget:a.tmps.getD t undef=(a.tmps[t]?).getD undef:=Bu
   cases hA:(F.A p).getD t .junk <;> rw [hA] at hg hvt <;> simp only at hg
   case bool b' =>
    have hbv:=EG hvt
    have htv:a.tmps[t]?=some (.bool b'):=by
     rw [hget] at hbv
     cases hq:a.tmps[t]? with
     | none=>rw [hq] at hbv;simp [undef] at hbv
     | some y=>rw [hq] at hbv;simp at hbv;rw [hbv]
    rw [htv] at hwant
    simp only at hwant
    cases hx:F.x p with
    | true =>
      rw [hx] at hg
      rw [if_pos (by rw [hwant];exact hg.symm)]
      exact .inl (hdo hx)
    | false =>
      rw [hx] at hg
      rw [if_neg (by rw [hwant,← hg];simp),ho.dst]
      exact hskip hx
   case tup fs =>
    simp only [RV] at hvt
    obtain ⟨xs,hx,_⟩:=hvt
    have:Region.wanted o (yielded ops a.tmps)=false:=by
     rw [hwant]
     split
     ·rename_i b' hq;rw [hget,hq] at hx;simp at hx
     ·rfl
    rw [if_neg (by rw [this];simp),ho.dst]
    exact hskip hg
def left (n:Nat) (S:Array Bool):Nat:=(List.range n).countP (fun i=>!S.getD i true)
theorem Mw {p q:Nat→Bool}:∀ (l:List Nat),(∀ i ∈ l,q i=true→p i=true)→(∃ i ∈ l,p i=true∧q i=false)→l.countP q < l.countP p
 | [],_,h=>by obtain ⟨i,h,_⟩:=h;simp at h
 | i :: l, hle, h => by
   have hmono:l.countP q≤l.countP p:=List.countP_mono_left (fun j hj hq=>hle j (by simp [hj]) hq)
   obtain ⟨j,hj,h1,h2⟩:=h
   rcases List.mem_cons.1 hj with rfl | hj
   ·rw [List.countP_cons,List.countP_cons,h1,h2]
    simp;omega
   ·have ih:=Mw l (fun j hj hq=>hle j (by simp [hj]) hq) ⟨j,hj,h1,h2⟩
    have hi:=hle i Bu
    rw [List.countP_cons,List.countP_cons]
    cases hq:q i with
    | true=>rw [hi hq];simp;omega
    | false=>cases hp:p i <;> simp <;> omega
theorem Amd (hP:Plan M ops L N wm F) (hwm:∀ j,wm.testBit j=true→(Dj L j).isW=true) {Q:Exit→Act→World→Prop}
 (hend:∀ S a P e Hc,DSt M L N F c ops.size S a P e Hc→(∀ p,p < L.length→lst L S p)→Q .normal a e.w) :
 ∀ (fuel:Nat) (S:Array Bool) (a:Act) (P:Nat) (e:Env) (Hc:Hp),DSt M L N F c ops.size S a P e Hc→left ops.size S≤fuel→wpAny M.P .any ops Q fuel S a e.w:=by
 have hready:∀ (S:Array Bool) (a:Act) (P:Nat) (e:Env) (Hc:Hp),DSt M L N F c ops.size S a P e Hc→Region.ready .any ops S=[]→∀ p,p < L.length→lst L S p:=by
  intro S a P e Hc h hr
  have key:∀ n p,p≤n→p < L.length→lst L S p:=by
   intro n
   induction n using Nat.strongRecOn with
   | _ n ih =>
     intro p hp hl
     obtain ⟨o,ho⟩:=hP.D.at' p hl
     have hop:ops[D4 L p]?=some o:=ho.op
     have hix:=Adc hP.D hl
     cases hn:S.getD (D4 L p) false with
     | true=>exact hn
     | false =>
       have hmem:D4 L p ∈ Region.ready .any ops S:=by
        unfold Region.ready
        rw [List.mem_filter]
        refine ⟨List.mem_range.2 hix,?_⟩
        have hsz:=h.sz
        have hgt:S.getD (D4 L p) true=false:=by
         have hlt:D4 L p < S.size:=Aa
         simp [hlt] at hn ⊢;exact hn
        rw [hgt,hop]
        simp only [Bool.not_false,Option.map_some,Option.getD_some,Bool.true_and,Array.all_eq_true]
        intro i hi
        have hmem':o.after[i] ∈ o.after.toList:=Bu
        cases hb:Region.binds .any o.after[i] with
        | false=>simp
        | true =>
          have hlt:=ho.lt _ hmem' hb
          have hl':=ih (BG L o.after[i].on) Aa (BG L o.after[i].on) (Nat.le_refl _) Aa
          unfold lst at hl'
          have he:D4 L (BG L o.after[i].on)=o.after[i].on:=KM Aa
          rw [he] at hl'
          simp only [Bool.not_true,Bool.false_or];exact hl'
       rw [hr] at hmem
       simp at hmem
  exact fun p hp=>key p p (Nat.le_refl p) hp
 intro fuel
 induction fuel with
 | zero =>
   intro S a P e Hc h hf
   have hr:Region.ready .any ops S=[]:=by
    unfold Region.ready
    rw [List.filter_eq_nil_iff]
    intro i hi
    have:left ops.size S=0:=Aa
    unfold left at this
    rw [List.countP_eq_zero] at this
    have:=this i hi
    simp only [Bool.not_eq_true,Bool.not_eq_false'] at this
    rw [this];simp
   exact ⟨hr,hend S a P e Hc h (hready S a P e Hc h hr)⟩
 | succ fuel ih =>
   intro S a P e Hc h hf
   refine ⟨fun hr=>hend S a P e Hc h (hready S a P e Hc h hr),fun i hi=>?_⟩
   unfold Region.ready at hi
   rw [List.mem_filter] at hi
   obtain ⟨h1,h2⟩:=hi
   have hin:=List.mem_range.1 h1
   have hpl:=hP.D.all i hin
   obtain ⟨o,ho⟩:=hP.D.at' _ hpl
   have hix:D4 L (BG L i)=i:=KM hpl
   have hop:ops[i]?=some o:=by rw [← hix];exact ho.op
   simp only [YC] at h2
   obtain ⟨h2,h3⟩:=h2
   rw [hop] at h3
   simp only [Option.map_some,Option.getD_some,Array.all_eq_true] at h3
   have hsz:=h.sz
   have hnl:¬ lst L S (BG L i):=by
    unfold lst;rw [hix]
    have hlt:i < S.size:=Aa
    simp [hlt] at h2 ⊢;exact h2
   have hedge:∀ e ∈ o.after.toList,Region.binds .any e=true→lst L S (BG L e.on):=by
    intro e he hb
    obtain ⟨k,hk,rfl⟩:=List.mem_iff_getElem.1 he
    have:=h3 k (by simpa using hk)
    have hlt:=ho.lt _ he hb
    unfold lst
    rw [show D4 L (BG L (o.after.toList[k]).on)=(o.after.toList[k]).on from KM Aa]
    simp only [Array.getElem_toList] at hb ⊢
    rw [hb] at this
    simpa using this
   have hbf:∀ j,(BW L (BG L i)).testBit j=true→lst L S j:=by
    intro j hj
    obtain ⟨e,he,hb,hh⟩:=ho.bf j hj
    have hl:=hedge e he hb
    rcases hh with rfl | hh
    ·exact hl
    ·exact h.cl _ (by have:=ho.lt e he hb;omega) hl j hh
   have:=Agn hP hwm h hpl hnl hbf (Q:=Q) (next:=wpAny M.P .any ops Q fuel (S.setIfInBounds i true)) (fun a' P' e' Hc' h'=>by
    rw [hix] at h'
    refine ih _ a' P' e' Hc' h' ?_
    have hlt:left ops.size (S.setIfInBounds i true) < left ops.size S:=by
     unfold left
     refine Mw _ (fun j hj hq=>?_) ⟨i,h1,?_,?_⟩
     ·have hjl:=List.mem_range.1 hj
      by_cases hij:i=j
      ·subst hij;simp [hsz,hin] at hq
      ·have hjs:j < S.size:=Aa
       simp [hjs,Array.getElem_setIfInBounds_ne,hij] at hq ⊢;exact hq
     ·rw [h2];rfl
     ·simp [hsz,hin]
    omega)
   rw [hix] at this
   exact this
theorem TQ {K:List V→Hp→Prop} {A:List V} {H:Hp} {e:Env} {a:Act} {Q:Exit→Act→World→Prop} (hc:Acv M ops L=true) (hI:Inv M c e H) (hA:FR e A a.tmps) (hD:∀ id,N≤id→¬ e.D id) (hdef:a.defers=[])
 (hwm:∀ j,wm.testBit j=true→(Dj L j).isW=true)
 (hK:∀ A' H' a' e',Inv M c e' H'→FR e' A' a'.tmps→(∀ id,N + 32 * L.length≤id→¬ e'.D id)→a'.defers=[]→K A' H'→Q .normal a' e'.w)
 (h:AC M K L.length N wm L 0 A H [(0,H)] []):wpAny M.P .any ops Q ops.size (Array.replicate ops.size false) a e.w:=by
 have hDF:=KP hc
 obtain ⟨F,hs,hall,hKF⟩:=O5 (K:=K) (L:=L) L 0 { A:=fun _=>A,H:=fun _=>H,x:=fun _=>false,v:=fun _=>.junk } (fun i=>by simp) Bu (by simpa [CT,Cj] using h)
 have hA0:F.A 0=A:=hs.A 0 (Nat.le_refl 0)
 have hH0:F.H 0=H:=hs.H 0 (Nat.le_refl 0)
 have hP:Plan M ops L N wm F:=⟨hDF,fun p hp=>hall p (Nat.zero_le p) hp,fun id hid=>by
  rw [hH0] at hid
  exact Nat.lt_of_not_le (fun hle=>hD id hle (hI.blk id hid).1)⟩
 have hno:∀ p,¬ lst L (Array.replicate ops.size false) p:=fun p hl=>by
  unfold lst at hl
  by_cases hlt:D4 L p < ops.size
  ·simp [hlt] at hl
  ·simp [hlt] at hl
 have h0:DSt M L N F c ops.size (Array.replicate ops.size false) a 0 e H:=by
  refine ⟨by simp,fun p _ hl=>absurd hl (hno p),fun p hp=>absurd hp (Nat.not_lt_zero _),fun p _ _ _=>hno p,Nat.zero_le _,by simp [CT],hI,fun id hid=>?_,fun p _ _ hl=>absurd hl (hno p),by rw [hA0];exact hA.len,fun p _ hl=>absurd hl (hno p),fun t _=>by rw [hA0];exact hA.val t,fun id hid=>.inl (Nat.lt_of_not_le (fun hle=>hD id hle hid)),hdef⟩
  rw [hH0] at hid ⊢
  exact ⟨hid,rfl⟩
 refine Amd hP hwm (fun S a' P e' Hc hst hl=>?_) ops.size _ a 0 e H h0 (by
  unfold left
  exact Nat.le_trans List.countP_le_length Bu)
 have hsub:=R8 hP hst L.length hst.Pm (Nat.le_refl _) (fun j _ hj=>hl j hj)
 refine hK (F.A L.length) (F.H L.length) a' e' (hst.inv.sub hsub) ⟨by rw [hst.len,E6 hP _ (Nat.le_refl _)],fun t=>?_⟩ (fun id hid hd=>?_) hst.defs hKF
 ·by_cases htl:t < (F.A 0).length
  ·by_cases hex:∃ j,j < L.length∧Jj L j=some t
   ·obtain ⟨j,hj,hd⟩:=hex
    rw [QO hP hd htl L.length (Nat.le_refl _) hj]
    exact hst.va j hj (hl j hj) t hd htl
   ·rw [Ra hP L.length (Nat.le_refl _) (fun j hj hd=>hex ⟨j,hj,hd⟩)]
    exact hst.vb t (fun q hq _ hd=>hex ⟨q,hq,hd⟩)
  ·have:(F.A L.length).getD t .junk = .junk:=by
    rw [List.getD_eq_getElem?_getD,List.getElem?_eq_none (by rw [E6 hP _ (Nat.le_refl _)];omega)];rfl
   rw [this];trivial
 ·rcases hst.ids id hd with h1 | ⟨q,h1,_,_,h4⟩
  ·omega
  ·cases hw:(Dj L q).isW with
   | true=>rw [IS hw] at h4;omega
   | false=>rw [ET hw] at h4;omega
def G3:List DOp→Nat→Nat
 | [],_=>0
 | d :: r,p=>(if d.o.k.isW then 2 ^ p else 0) ||| G3 r (p + 1)
theorem M0:∀ (L:List DOp) (p j:Nat),(G3 L p).testBit j=true→p≤j∧(Dj L (j - p)).isW=true
 | [],_,_,h=>by simp [G3] at h
 | d :: r, p, j, h => by
   simp only [G3,Nat.testBit_or,Bool.or_eq_true] at h
   rcases h with h | h
   ·split at h
    ·rename_i hw
     rw [Nat.testBit_two_pow] at h
     have:p=j:=Jk
     subst this
     exact ⟨Nat.le_refl _,by simpa [Dj,GP] using hw⟩
    ·simp at h
   ·obtain ⟨h1,h2⟩:=M0 r (p + 1) j h
    refine ⟨by omega,?_⟩
    have e1:j - p=(j - (p + 1)) + 1:=Aa
    rw [e1]
    simpa [Dj,GP] using h2
end
end Mv
