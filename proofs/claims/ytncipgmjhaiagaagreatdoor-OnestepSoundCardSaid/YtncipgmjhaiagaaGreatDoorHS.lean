/- A part. -/
import Derived.Test.YtncipgmjhaiagaaGreatDoorHR
set_option linter.all false
set_option maxRecDepth 20000
set_option maxHeartbeats 32000000
namespace Mv
open Go
variable {M:Seat}
theorem Asu (ok:OkRS M) (c:Ck) (a:BitVec 64) (ha:¬ 8192#64≤a) (h:(Ix.rd c a).2.1=none):RdR M c a (Ix.rd c a).1 (Ix.rd c a).2.2∧(Ix.rd c a).2.2.pre=c.pre:=by
 obtain ⟨root,l,pre⟩:=c
 cases l with
 | nil=>cases h
 | cons p l =>
   have h:(if ¬ p.p.length=13 then some (3:Int) else if BZ a.toNat (B5 p.v) p.p 13=root then none else some 31)=none:=h
   by_cases hp:p.p.length=13
   ·rw [if_neg (fun h=>h hp)] at h
    by_cases hf:BZ a.toNat (B5 p.v) p.p 13=root
    ·exact ⟨Asx ok root p l pre a ha hp hf,rfl⟩
    ·rw [if_neg hf] at h;cases h
   ·rw [if_pos hp] at h;cases h
theorem Ate (ok:OkRS M) (c:Ck) (a v:BitVec 64) (ha:¬ 8192#64≤a) (h:(Ix.wr c a v).1=none):(∃ u,WrR M c a v u (Ix.wr c a v).2)∧(Ix.wr c a v).2.pre=c.pre:=by
 obtain ⟨root,l,pre⟩:=c
 cases l with
 | nil=>cases h
 | cons p l =>
   have e:Ix.wr ⟨root,p :: l,pre⟩ a v=if ¬ p.p.length=13 then (some 3,⟨root,l,pre⟩) else if BZ a.toNat (B5 p.v) p.p 13=root then (none,⟨BZ a.toNat (B5 v) p.p 13,l,pre⟩) else (some 31,⟨root,l,pre⟩):=rfl
   rw [e] at h ⊢
   by_cases hp:p.p.length=13
   ·rw [if_neg (fun h=>h hp)] at h ⊢
    by_cases hf:BZ a.toNat (B5 p.v) p.p 13=root
    ·rw [if_pos hf]
     exact ⟨⟨_,Ar8 ok root p l pre a v ha hp hf true⟩,rfl⟩
    ·rw [if_neg hf] at h;cases h
   ·rw [if_pos hp] at h;cases h
theorem Ash (ok:OkRS M) (a:BitVec 64):∀ (n i:Nat) (s:Ck) (l:List (BitVec 64)) (s':Ck) (l':List (BitVec 64)),a.toNat + (i + n)≤8192→Jy Ix a n i s l=(none,s',l') →
 ∃ (cs:Nat→Ck) (l2:List (BitVec 64)),l'=l ++ l2∧cs 0=s∧cs n=s'∧s'.pre=s.pre∧∀ j,j < n→RdR M (cs j) (a + BitVec.ofNat 64 (i + j)) (l2.getD j 0#64) (cs (j + 1))
 | 0, i, s, l, s', l', _, h => by
   cases h
   exact ⟨fun _=>s,[],by simp,rfl,rfl,rfl,fun j hj=>absurd hj (Nat.not_lt_zero _)⟩
 | n + 1, i, s, l, s', l', hb, h => by
   rw [Jy] at h
   cases he:(Ix.rd s (a + BitVec.ofNat 64 i)).2.1 with
   | some e=>rw [he] at h;cases h
   | none =>
     rw [he] at h
     obtain ⟨hR,hp⟩:=Asu ok s _ (G8 a i Aa) he
     obtain ⟨cs,l2,e1,e2,e3,e4,e5⟩:=Ash ok a n (i + 1) _ _ s' l' Aa h
     refine ⟨fun j=>Nat.casesOn j s cs,(Ix.rd s (a + BitVec.ofNat 64 i)).1 :: l2,by rw [e1];simp,rfl,e3,e4.trans hp,fun j hj=>?_⟩
     cases j with
     | zero=>show RdR M s (a + BitVec.ofNat 64 i) _ (cs 0);rw [e2];exact hR
     | succ j=>have:=e5 j Aa;rw [show i + 1 + j=i + (j + 1) by omega] at this;exact this
theorem As3 (ok:OkRS M) (a:BitVec 64) (f:Nat→BitVec 64):∀ (n i:Nat) (s:Ck) (s':Ck),a.toNat + (i + n)≤8192→Ph Ix a f n i s=(none,s') →
 ∃ (ds:Nat→Ck) (u:Nat→BitVec 64),ds 0=s∧ds n=s'∧∀ j,j < n→WrR M (ds j) (a + BitVec.ofNat 64 (i + j)) (f (i + j)) (u j) (ds (j + 1))
 | 0, i, s, s', _, h => by
   cases h
   exact ⟨fun _=>s,fun _=>0#64,rfl,rfl,fun j hj=>absurd hj (Nat.not_lt_zero _)⟩
 | n + 1, i, s, s', hb, h => by
   rw [Ph] at h
   cases he:(Ix.wr s (a + BitVec.ofNat 64 i) (f i)).1 with
   | some e=>rw [he] at h;cases h
   | none =>
     rw [he] at h
     obtain ⟨⟨u,hR⟩,hp⟩:=Ate ok s _ _ (G8 a i Aa) he
     obtain ⟨ds,us,e2,e3,e5⟩:=As3 ok a f n (i + 1) _ s' Aa h
     refine ⟨fun j=>Nat.casesOn j s ds,fun j=>Nat.casesOn j u us,rfl,e3,fun j hj=>?_⟩
     cases j with
     | zero=>show WrR M s (a + BitVec.ofNat 64 i) (f i) u (ds 0);rw [e2];exact hR
     | succ j=>have:=e5 j Aa;rw [show i + 1 + j=i + (j + 1) by omega] at this;exact this
theorem Ass (ok:OkRS M) (h:Hd) (s:Ck) (hl:h.hl=false) (hpc:¬ 8192#64≤h.pc) (h1:Hd) (s1:Ck) (hq:nx Ix h s=(h1,none,s1)) :
 DsR M h.g h.pc false h.xt s.pre s h1.g h1.pc h1.hl h1.xt s1:=by
 obtain ⟨g,pc,hl',xt⟩:=h
 dsimp only at hl hpc ⊢
 subst hl
 rw [nx] at hq
 dsimp only at hq
 cases he:(Ix.rd s pc).2.1 with
 | some e=>rw [he] at hq;cases hq
 | none =>
   rw [he] at hq
   dsimp only at hq
   obtain ⟨hR,hpre⟩:=Asu ok s pc hpc he
   clear he
   generalize (Ix.rd s pc).1=w at hq hR
   generalize (Ix.rd s pc).2.2=s' at hq hR hpre
   rw [← hpre]
   unfold Of at hq
   dsimp only at hq
   by_cases q0:isI w=false
   ·rw [if_pos q0] at hq
    cases hq
    exact As7 ok g pc xt s1.pre s hpc s1 w hR (by
     cases hi:Co w with
     | false=>rfl
     | true=>simp only [Co,decide_eq_true_eq] at hi;rw [(Nm _).2 hi] at q0;cases q0)
   rw [if_neg q0] at hq
   obtain ⟨h35,h2⟩:=(Nm w).1 (by simpa using q0)
   have hi:Co w=true:=by simp only [Co,decide_eq_true_eq];exact ⟨h35,h2⟩
   by_cases q1:AT w=0
   ·rw [if_pos q1] at hq
    cases hq
    exact Asy ok g pc xt s1.pre s hpc s1 w hR hi q1
   rw [if_neg q1] at hq
   by_cases q2:AT w < 26
   ·rw [if_pos q2] at hq
    cases hq
    exact Aso ok g pc xt s1.pre s hpc s1 w hR hi (AT w) Aa Aa rfl
   rw [if_neg q2] at hq
   by_cases q3:AT w=26
   ·rw [if_pos q3] at hq
    cases hq
    exact Atc ok g pc xt s1.pre s hpc s1 w hR hi q3
   rw [if_neg q3] at hq
   by_cases q4:AT w=27 ∨ AT w=28
   ·rw [if_pos q4] at hq
    by_cases q5:8192#64≤g (pF w 48) + BitVec.ofInt 64 (pN w)
    ·rw [if_pos q5] at hq
     cases hq
     rcases q4 with q4 | q4
     ·exact Asa ok g pc xt s1.pre s hpc s1 w hR hi q4 q5
     ·exact Ar7 ok g pc xt s1.pre s hpc s1 w hR hi q4 q5
    rw [if_neg q5] at hq
    by_cases q6:AT w=27
    ·rw [if_pos q6] at hq
     injection hq with e1 e2
     have e3:(Ix.rd s' (g (pF w 48) + BitVec.ofInt 64 (pN w))).2.1=none:=by rw [e2]
     obtain ⟨hR2,-⟩:=Asu ok s' _ q5 e3
     rw [show (Ix.rd s' (g (pF w 48) + BitVec.ofInt 64 (pN w))).2.2=s1 by rw [e2]] at hR2
     subst e1
     exact Asv ok g pc xt s'.pre s hpc s' w hR hi q6 q5 _ s1 hR2
    ·rw [if_neg q6] at hq
     injection hq with e1 e2
     have e3:(Ix.wr s' (g (pF w 48) + BitVec.ofInt 64 (pN w)) (g (pF w 44))).1=none:=by rw [e2]
     obtain ⟨⟨u,hR2⟩,-⟩:=Ate ok s' _ _ q5 e3
     rw [show (Ix.wr s' (g (pF w 48) + BitVec.ofInt 64 (pN w)) (g (pF w 44))).2=s1 by rw [e2]] at hR2
     subst e1
     exact Asr ok g pc xt s'.pre s hpc s' w hR hi (q4.resolve_left q6) q5 u s1 hR2
   rw [if_neg q4] at hq
   by_cases q7:AT w < 34
   ·rw [if_pos q7] at hq
    obtain ⟨ga,hga⟩:∃ ga,g (pF w 48)=ga:=⟨_,rfl⟩
    obtain ⟨to,hto⟩:∃ to,BitVec.ofInt 64 (pN w)=to:=⟨_,rfl⟩
    rw [hto] at hq
    injection hq with hj e2
    injection e2 with _ e3
    subst e3
    by_cases hs:(AT w=30∧¬ ga=0#64) ∨ (AT w=31∧ga=0#64)
    ·rw [Aqr _ _ _ _ _ (by dsimp only;rw [hga];exact hs)] at hj
     subst hj
     exact Ast ok g pc xt s'.pre s hpc s' w hR hi ga hga hs
    have hs':¬ ((AT w=30∧¬ (⟨g,pc,false,xt⟩:Hd).g (pF w 48)=0#64) ∨ (AT w=31∧(⟨g,pc,false,xt⟩:Hd).g (pF w 48)=0#64)):=by dsimp only;rw [hga];exact hs
    by_cases q8:AT w=33
    ·have hn:(if AT w=33 then (⟨g,pc,false,xt⟩:Hd).g (pF w 48) else to)=ga:=by rw [if_pos q8];exact hga
     by_cases hw:8192#64≤ga
     ·rw [Aqt _ _ _ _ _ _ hs' hn hw] at hj
      subst hj
      exact Ar9 ok g pc xt s'.pre s hpc s' w hR hi to ga hto hga (.inr (.inr (.inr (.inr ⟨q8,hw⟩))))
     ·rw [Aqj _ _ (pF w 52) _ _ _ hs' hn hw,if_neg Aa] at hj
      subst hj
      exact Asb ok g pc xt s'.pre s hpc s' w hR hi to ga ga hto hga hw (.inr (.inr (.inr ⟨q8,rfl⟩)))
    have hn:(if AT w=33 then (⟨g,pc,false,xt⟩:Hd).g (pF w 48) else to)=to:=if_neg q8
    by_cases hw:8192#64≤to
    ·rw [Aqt _ _ _ _ _ _ hs' hn hw] at hj
     subst hj
     refine Ar9 ok g pc xt s'.pre s hpc s' w hR hi to ga hto hga ?_
     by_cases p29:AT w=29
     ·exact .inl ⟨p29,hw⟩
     by_cases p30:AT w=30
     ·exact .inr (.inl ⟨p30,Classical.byContradiction fun hc=>hs (.inl ⟨p30,hc⟩),hw⟩)
     by_cases p31:AT w=31
     ·exact .inr (.inr (.inl ⟨p31,fun hc=>hs (.inr ⟨p31,hc⟩),hw⟩))
     exact .inr (.inr (.inr (.inl ⟨by omega,hw⟩)))
    ·rw [Aqj _ _ (pF w 52) _ _ _ hs' hn hw] at hj
     by_cases p32:AT w=32
     ·rw [if_pos p32] at hj
      subst hj
      exact As5 ok g pc xt s'.pre s hpc s' w hR hi to hto hw p32
     rw [if_neg p32] at hj
     subst hj
     refine Asb ok g pc xt s'.pre s hpc s' w hR hi to ga to hto hga hw ?_
     by_cases p29:AT w=29
     ·exact .inl ⟨p29,rfl⟩
     by_cases p30:AT w=30
     ·exact .inr (.inl ⟨p30,Classical.byContradiction fun hc=>hs (.inl ⟨p30,hc⟩),rfl⟩)
     exact .inr (.inr (.inl ⟨by omega,fun hc=>hs (.inr ⟨by omega,hc⟩),rfl⟩))
   rw [if_neg q7] at hq
   have key:∀ (n t:Nat) (b:BitVec 64) (s2:Ck) (p:Nat→BitVec 8),b.toNat + (0 + t)≤8192→GL Ix ⟨g,pc,false,xt⟩ s2 b t p=(h1,none,s1) →
    h1=⟨g,pc + 1#64,false,xt⟩∧∃ (ds:Nat→Ck) (u:Nat→BitVec 64),ds 0=s2∧ds t=s1∧∀ j,j < t→WrR M (ds j) (b + BitVec.ofNat 64 j) (Vh p j) (u j) (ds (j + 1)):=by
    intro n t b s2 p hb hq
    unfold GL at hq
    generalize hw:Ph Ix b (Vh p) t 0 s2=R at hq
    obtain ⟨e,s3⟩:=R
    cases e with
    | some e=>cases hq
    | none =>
      cases hq
      obtain ⟨ds,u,e1,e2,e3⟩:=As3 ok b (Vh p) t 0 s2 s1 hb hw
      simp only [Nat.zero_add] at e3
      exact ⟨rfl,ds,u,e1,e2,e3⟩
   by_cases q8:AT w=34
   ·rw [q8] at hq
    unfold MX at hq
    simp only [show ¬ (34:Nat)=35 by decide,CD] at hq
    by_cases q9:(wi (g (pF w 48)) 8#64 && wi (g (pF w 44)) 4#64)=false
    ·rw [if_pos q9] at hq
     cases hq
     exact Asi ok g pc xt s1.pre s hpc s1 w hR hi q8 q9
    rw [if_neg q9] at hq
    simp only [Bool.not_eq_false,Bool.and_eq_true] at q9
    have b1:=B8 q9.1
    have b2:=B8 q9.2
    generalize hr:Jy Ix (g (pF w 48)) 8 0 s' []=R at hq
    obtain ⟨e,s2,l⟩:=R
    cases e with
    | some e=>cases hq
    | none =>
      dsimp only at hq
      obtain ⟨cs,l2,e1,e2,e3,e4,e5⟩:=Ash ok _ 8 0 s' [] s2 l (by exact b1) hr
      rw [List.nil_append] at e1
      subst e1
      simp only [Nat.zero_add] at e5
      obtain ⟨rfl,ds,u,d1,d2,d3⟩:=key 0 4 _ _ _ (by exact b2) hq
      have:=Asn ok g pc xt s'.pre s hpc s' w hR hi q8 _ _ rfl rfl q9.1 q9.2 cs (fun j=>l.getD j 0#64) e2 e5 _ rfl ds u (d1.trans e3.symm) d3
      rw [d2] at this
      exact this
   ·have q8:AT w=35:=Aa
    rw [q8] at hq
    unfold MX at hq
    simp only [show ¬ (35:Nat)=34 by decide,CD] at hq
    by_cases q9:(wi (g (pF w 48)) 4#64 && wi (g (pF w 44)) 8#64)=false
    ·rw [if_pos q9] at hq
     cases hq
     exact Asm ok g pc xt s1.pre s hpc s1 w hR hi q8 q9
    rw [if_neg q9] at hq
    simp only [Bool.not_eq_false,Bool.and_eq_true] at q9
    have b1:=B8 q9.1
    have b2:=B8 q9.2
    generalize hr:Jy Ix (g (pF w 48)) 4 0 s' []=R at hq
    obtain ⟨e,s2,l⟩:=R
    cases e with
    | some e=>cases hq
    | none =>
      dsimp only at hq
      obtain ⟨cs,l2,e1,e2,e3,e4,e5⟩:=Ash ok _ 4 0 s' [] s2 l (by exact b1) hr
      rw [List.nil_append] at e1
      subst e1
      simp only [Nat.zero_add] at e5
      unfold QC at hq
      have hp:Ix.pi s2 (Dg.mk' (CS l))=if B9 s2.pre.at=Dg.mk' (CS l) then (s2.pre,none,s2) else (Pr.zero,some 31,s2):=rfl
      rw [hp] at hq
      by_cases hd:B9 s2.pre.at=Dg.mk' (CS l)
      ·rw [if_pos hd] at hq
       dsimp only at hq
       rw [e4] at hq hd
       obtain ⟨rfl,ds,u,d1,d2,d3⟩:=key 0 8 _ _ _ (by exact b2) hq
       have:=Asp ok g pc xt s'.pre s hpc s' w hR hi q8 _ _ rfl rfl q9.1 q9.2 cs (fun j=>l.getD j 0#64) e2 e5 hd _ rfl ds u (d1.trans e3.symm) d3
       rw [d2] at this
       exact this
      ·rw [if_neg hd] at hq
       cases hq
variable {M:Seat}
structure OkRV (M:Seat):Prop where
 s:OkRS M
 k100:Al M 100 Aus=true
 k242:Al M 242 Atz=true
theorem Atj (ok:OkRS M) (claim root:Dg) (h:Hd) (l:List Pf) (pre:Pr) (d:Dg) (hv:vfy claim root h l pre=(d,none)) :
 B2 root (DV h.g h.pc h.hl h.xt)=claim∧∃ (h1:Hd) (r1:Dg) (p1:Pr),B2 r1 (DV h1.g h1.pc h1.hl h1.xt)=d∧DsR M h.g h.pc h.hl h.xt pre ⟨root,l,pre⟩ h1.g h1.pc h1.hl h1.xt ⟨r1,[],p1⟩:=by
 obtain ⟨g,pc,hl,xt⟩:=h
 unfold vfy at hv
 dsimp only at hv ⊢
 by_cases hc:B2 root (DV g pc hl xt)=claim
 ·rw [if_neg (fun h=>h hc)] at hv
  refine ⟨hc,?_⟩
  have key:∀ (h1:Hd) (c1:Ck),YJ c1 h1=(d,none)→DsR M g pc hl xt pre ⟨root,l,pre⟩ h1.g h1.pc h1.hl h1.xt c1→∃ (h1:Hd) (r1:Dg) (p1:Pr),B2 r1 (DV h1.g h1.pc h1.hl h1.xt)=d∧DsR M g pc hl xt pre ⟨root,l,pre⟩ h1.g h1.pc h1.hl h1.xt ⟨r1,[],p1⟩:=by
   intro h1 c1 he hD
   obtain ⟨r1,l1,p1⟩:=c1
   unfold YJ at he
   dsimp only at he
   by_cases h0:l1=[]
   ·subst h0
    rw [if_pos rfl] at he
    injection he with e1 _
    exact ⟨h1,r1,p1,e1,hD⟩
   ·rw [if_neg h0] at he;cases he
  cases hl with
  | true=>rw [if_pos rfl] at hv;exact key _ _ hv (Ata ok g pc xt pre _)
  | false =>
    rw [if_neg Bu] at hv
    by_cases hpc:8192#64≤pc
    ·rw [if_pos hpc] at hv;exact key _ _ hv (As4 ok g pc xt pre _ hpc)
    ·rw [if_neg hpc] at hv
     generalize hq:nx Ix ⟨g,pc,false,xt⟩ ⟨root,l,pre⟩=q at hv
     obtain ⟨h1,e,c1⟩:=q
     cases e with
     | some e=>cases hv
     | none=>exact key _ _ hv (Ass ok ⟨g,pc,false,xt⟩ ⟨root,l,pre⟩ rfl hpc h1 c1 hq)
 ·rw [if_pos hc] at hv;cases hv
theorem Asg (ok:OkRV M) (claim root:Dg) (h:Hd) (l:List Pf) (pre:Pr) (d:Dg) (hv:vfy claim root h l pre=(d,none)) :
 Af M 242 [dg claim,dg root,hdR (.sl 0 [] 0 16 1) h.pc h.hl h.xt,.lst 2 l.length (Dz l),At pre] [(0,.ar 1 16 fun j=>W (h.g j))] 1 (Q3 (Ao (dg d) (.int .i64 0)) [(0,.ar 1 16 fun j=>W (h.g j))] 1):=by
 obtain ⟨hc,h1,r1,p1,hd,hD⟩:=Atj ok.s claim root h l pre d hv
 clear hv
 obtain ⟨g,pc,hl,xt⟩:=h
 obtain ⟨g1,pc1,hl1,xt1⟩:=h1
 dsimp only at hc hd hD ⊢
 subst hc hd
 refine Ac ok.k242 rfl fun x hx=>?_
 refine es 2000 ?_;(simp only [Atz,Ats,hdR,At,BA,seval])
 have zz:=aq2 @hdR.eq_1 @dg.eq_1;refine Gy (Asc ok.s.w g pc hl xt) ?_
 (simp only [LZ,seval])
 have zz:=@dg.eq_1;refine Gy (Oe ok.s.w.b root (DV g pc hl xt)) ?_
 (simp only [BA,JZ,decide_true,seval])
 have zz:=aq5 @hdR.eq_1 @dsH.eq_1 @ckD.eq_1 Jl @C6;refine IJ [353,433] [353,433] (hD) ?_
 (simp only [hdR,dsH,ckD,H3,BA,List.length_nil,seval])
 have zz:=aq2 @hdR.eq_1 @dg.eq_1;refine Gy (Asc ok.s.w g1 pc1 hl1 xt1) ?_
 (simp only [BA,seval])
 have zz:=@dg.eq_1;refine Gy (Oe ok.s.w.b r1 (DV g1 pc1 hl1 xt1)) ?_
 (simp only [BA,seval])
 have zz:=aq3 @dg.eq_1 @LM @C6;exact Bg hx [0] ⟨rfl,rfl,rfl⟩
def tvL:Nat→V
 | 0=>.nils
 | i + 1=>.sl 5 [] 0 (i + 1) 2
def tvH (l:List Pf):Nat→Hp
 | 0=>[]
 | i + 1=>[(5,.ar 2 (i + 1) (Dz l))]
def tvN:Nat→Nat
 | 0=>5
 | _ + 1=>6
def vrF (T:V) (l:List Pf) (i:Nat) (p:List Dg) (j:Nat):List (Nat × V):=[(2,.ptr 0 []),(3,.ptr 1 []),(4,.ptr 2 []),(5,.int .i64 0),(6,.ptr 4 []),(7,T),(10,.ptr 6 []),(31,.lst 2 l.length (Dz l)),(32,.int .i64 l.length),(33,.int .i64 i),(41,.lst 32 p.length (Gc p)),(42,.int .i64 p.length),(43,.int .i64 j)]
def vrH (X:V) (claim root:Dg) (g:Nat→BitVec 64) (pc:BitVec 64) (hh:Bool) (xt:BitVec 64) (l:List Pf) (pre:Pr) (u:BitVec 64) (p:List Dg) (j:Nat):Hp:=[(0,dg claim),(1,Vf root ⟨g,pc,hh,xt⟩ l pre),(2,dg Dg.zero),(3,.ar 1 16 fun j=>W (g j)),(4,hdR (.sl 3 [] 0 16 1) pc hh xt),(5,X),(6,.st 2 (.fcons 0 (W u) (.fcons 1 (.sl 7 [] 0 j 32) .fnil))),(7,.ar 32 j (Gc p))]
theorem Auj (ok:OkRV M) (claim root:Dg) (h:Hd) (l:List Pf) (hl:l.length≤1000) (hp:∀ i,(l.getD i default).p.length≤13) (pre:Pr) (d:Dg) (hv:vfy claim root h l pre=(d,none)) :
 Af M 100 [dg claim,Vf root h l pre] [] 0 (Q3 (Ao (dg d) (.int .i64 0)) [] 0):=by
 have hV:=Asg ok claim root h l pre d hv
 clear hv
 obtain ⟨g,pc,hh,xt⟩:=h
 refine Ac ok.k100 rfl fun x hx=>?_
 refine es 2000 ?_;(simp only [Aus,Aut,Vf,Hd.v,AU,BA,Nat.testBit,List.map_nil,List.map_cons,Vl,seval])
 refine Ag (σ:=Nat) (fun i=>i≤l.length) (fun i=>fr 72 [(2,.ptr 0 []),(3,.ptr 1 []),(4,.ptr 2 []),(5,.int .i64 0),(6,.ptr 4 []),(7,tvL i),(31,.lst 2 l.length (Dz l)),(32,.int .i64 l.length),(33,.int .i64 i)])
  (fun i=>[(0,dg claim),(1,Vf root ⟨g,pc,hh,xt⟩ l pre),(2,dg Dg.zero),(3,.ar 1 16 fun j=>W (g j)),(4,hdR (.sl 3 [] 0 16 1) pc hh xt)] ++ tvH l i) tvN (fun i=>l.length - i) 0 Aa ?_ ?_
 ·refine Aj.fr [0,16,32,400,304] [] hx Ax Ak ?_ ?_
  ·simp only [tvL,Ca,LY,seval]
  ·simp only [tvH,Vf,Hd.v,AU,hdR,Jl,List.append_nil,CF,seval]
 ·intro i hi
  by_cases hin:i=l.length
  ·have d0:((i:Int) < (i:Int))=False:=eq_false Aa
   rw [← hin] at hV ⊢
   refine es 2000 ?_
   cases i with
   | zero =>
     (simp only [tvL.eq_1,tvH.eq_1,tvN.eq_1,Vf,Hd.v,G4,hdR,At,List.append_nil,Vl,Int.natCast_zero,seval])
     have zz:=aq3 @hdR.eq_1 Jl @C6;refine Fl [3] (hV) ?_
     (simp only [Gw,seval])
     have zz:=aq2 @dg.eq_1 @C6;exact Bg hx [] ⟨rfl,rfl,rfl⟩
   | succ i =>
     (simp only [d0,tvL.eq_2,tvH.eq_2,tvN.eq_2,Vf,Hd.v,G4,hdR,At,Vl,seval])
     have zz:=aq3 @hdR.eq_1 Jl @C6;refine Fl [3] (hV) ?_
     (simp only [Gw,seval])
     have zz:=aq2 @dg.eq_1 @C6;exact Bg hx [] ⟨rfl,rfl,rfl⟩
  ·have w0:IntKind.i64.wrap ((i:Int) + 1)=((i + 1:Nat):Int):=A9
   have d0:((i:Int) < (l.length:Int))=True:=eq_true Aa
   have z0:((0:Int) < (l.length:Int))=True:=eq_true Aa
   have z1:IntKind.i64.wrap 1=1:=rfl
   have hP:=hp i
   obtain ⟨⟨u,p⟩,e1⟩:∃ P,l.getD i default=P:=⟨_,rfl⟩
   have e2:Dz l i = .st 2 (.fcons 0 (W u) (.fcons 1 (.lst 32 p.length (Gc p)) .fnil)):=by rw [Dz,e1];rfl
   rw [e1] at hP
   dsimp only at hP
   clear e1 hV
   by_cases hz:p.length=0
   ·rw [hz] at e2
    rcases i with _ | i
    all_goals
     refine es 2000 ?_
     (simp only [d0,z0,e2,tvL.eq_1,tvH.eq_1,tvN.eq_1,tvL.eq_2,tvH.eq_2,tvN.eq_2,Vl,List.append_nil,LZ,seval])
     repeat refine sd ?_
     refine AZ ?_
     refine es 2000 ?_
     (simp only [w0,z1,LZ,seval])
     repeat refine sd ?_
     first | refine ⟨i + 1 + 1,by omega,by omega,?_⟩ | refine ⟨0 + 1,by omega,by omega,?_⟩
     simp only [tvL.eq_2,tvH.eq_2,tvN.eq_2]
     first | (have _:=i;refine Aj.fr [0,1,2,3,4,294] [] hx Ax Ak ?_ ?_) | refine Aj.fr [0,1,2,3,4,293] [] hx Ax Ak ?_ ?_
     ·simp only [Ca,Int.cast_ofNat_Int,LY,seval]
     ·simp only [Vf,Hd.v,AU,hdR,Jl,CF,seval]
      intro j hj
      first
      | (have _ := i
         by_cases h:j < i + 1
         ·rw [if_pos h];exact N4 _ _ _ _
         ·obtain rfl:j=i + 1:=Aa
          rw [if_neg h,if_pos (Nat.sub_self _),e2];simp only [LY,seval])
      | (obtain rfl : j = 0 := by omega
         simp only [if_true,e2,LY,seval])
   ·rcases i with _ | i
    all_goals
     refine es 2000 ?_
     (simp only [d0,z0,e2,tvL.eq_1,tvH.eq_1,tvN.eq_1,tvL.eq_2,tvH.eq_2,tvN.eq_2,Vl,List.append_nil,LZ,seval])
     repeat refine sd ?_
     refine AZ ?_
     refine es 2000 ?_
     have q0:(0 < (p.length:Int))=True:=eq_true Aa
     (simp only [q0,z1,LZ,seval])
     repeat refine sd ?_
     first
     | refine Ag (σ:=Nat) (fun j=>1≤j∧j≤p.length) (fun j=>fr 72 (vrF (.sl 5 [] 0 (i + 1) 2) l (i + 1) p j)) (fun j=>vrH (.ar 2 (i + 1) (Dz l)) claim root g pc hh xt l pre u p j) (fun _=>8) (fun j=>p.length - j) 1 ⟨by omega,by omega⟩ ?_ ?_
     | refine Ag (σ:=Nat) (fun j=>1≤j∧j≤p.length) (fun j=>fr 72 (vrF .nils l 0 p j)) (fun j=>vrH (.st 2 (.fcons 0 (W u) (.fcons 1 (.lst 32 p.length (Gc p)) .fnil))) claim root g pc hh xt l pre u p j) (fun _=>8) (fun j=>p.length - j) 1 ⟨by omega,by omega⟩ ?_ ?_
     ·first | (have _:=i;refine Aj.fr [0,1,2,3,4,5,134,374] [] hx Ax Ak ?_ ?_) | refine Aj.fr [0,1,2,3,4,53,133,373] [] hx Ax Ak ?_ ?_
      ·simp only [vrF,Ca,Int.cast_ofNat_Int,Gc,dg,LY,seval]
      ·simp only [vrH,Vf,Hd.v,AU,hdR,Jl,Gc,CF,seval]
       intro j hj
       obtain rfl:j=0:=Aa
       simp only [if_true,dg,LY,seval]
     ·rintro j ⟨h1,hj⟩
      refine es 2000 ?_
      by_cases hjn:j=p.length
      ·subst hjn
       have d1:((p.length:Int) < (p.length:Int))=False:=eq_false Aa
       (simp only [vrF,vrH,d1,w0,z1,LZ,seval])
       repeat refine sd ?_
       first | refine ⟨i + 1 + 1,by omega,by omega,?_⟩ | refine ⟨0 + 1,by omega,by omega,?_⟩
       simp only [tvL.eq_2,tvH.eq_2,tvN.eq_2]
       refine Aj.fr [0,1,2,3,4,72] [7] hx Ax Ak ?_ ?_
       ·simp only [Ca,Int.cast_ofNat_Int,LY,seval]
       ·simp only [Vf,Hd.v,AU,hdR,Jl,CF,seval]
        intro j hj
        first
        | (have _ := i
           by_cases h:j < i + 1
           ·rw [if_pos h];exact N4 _ _ _ _
           ·obtain rfl:j=i + 1:=Aa
            rw [if_neg h,if_pos (Nat.sub_self _),e2];simp only [Gc,dg,LY,seval];try rfl)
        | (obtain rfl : j = 0 := by omega
           simp only [if_true,e2,Gc,dg,LY,seval];try rfl)
      ·have d1:((j:Int) < (p.length:Int))=True:=eq_true Aa
       have d2:(j < p.length)=True:=eq_true Aa
       have wj:IntKind.i64.wrap ((j:Int) + 1)=((j + 1:Nat):Int):=A9
       (simp only [vrF,vrH,d1,d2,wj,LZ,seval])
       repeat refine sd ?_
       refine ⟨j + 1,by omega,by omega,by omega,?_⟩
       refine Aj.fr [0,1,2,3,4,5,6,152] [] hx Ax Ak ?_ ?_
       ·simp only [vrF,Ca,Int.cast_ofNat_Int,Gc,dg,LY,seval]
       ·simp only [vrH,Vf,Hd.v,AU,hdR,Jl,Gc,CF,seval]
        intro k hk
        by_cases h:k < j
        ·rw [if_pos h];simp only [LY,seval]
        ·obtain rfl:k=j:=Aa
         rw [if_neg h,if_pos (Nat.sub_self _)];simp only [LY,seval]
structure OkSp (M:Seat):Prop where
 k99:Al M 99 f99=true
def spK (kd a b:Int) (w:BitVec 64):V:=.st 4 (.fcons 0 (.int .i64 kd) (.fcons 1 (.int .i64 a) (.fcons 2 (.int .i64 b) (.fcons 3 (W w) .fnil))))
structure Spo where
 kd:Int
 a:Int
 b:Int
 w:BitVec 64
instance:Inhabited Spo:=⟨⟨0,0,0,0#64⟩⟩
def Auy (x:Spo):V:=spK x.kd x.a x.b x.w
def Arx (l:List Spo):V:=.lst 4 l.length (fun i=>Auy (l.getD i default))
def Arz (l:List Spo) (v:V):Prop:=v=Arx l ∨ (v = .nils∧l=[])
def Few (n:Nat) (l:List Pf):Prop:=l.length≤n∧∀ p ∈ l,p.p.length≤13
def fnL (n:Nat) (f:Nat→Pf):List Pf:=(List.range n).map f
theorem Aul (n:Nat) (f:Nat→Pf):(fnL n f).length=n:=by simp [fnL]
theorem Aur (n:Nat) (f:Nat→Pf) (j:Nat) (hj:j < n):(fnL n f).getD j default=f j:=by simp [fnL,List.getD_eq_getElem?_getD,hj]
theorem Aup (n m:Nat) (f:Nat→Pf) (h:n≤m) (hf:∀ j,j < n→(f j).p.length≤13):Few m (fnL n f):=by
 refine ⟨by rw [Aul];exact h,fun p hp=>?_⟩
 simp only [fnL,List.mem_map,List.mem_range] at hp
 obtain ⟨j,hj,rfl⟩:=hp
 exact hf j hj
theorem Auq {m:Nat} (n:Nat) (f:Nat→Pf) (h:n≤m) (hf:∀ j,j < n→(f j).p.length≤13):∃ l',l'.length=n∧(∀ j,j < n→Dz l' j=Ir (f j))∧Few m l' :=
 ⟨fnL n f,Aul n f,fun j hj=>by rw [Dz,Aur n f j hj],Aup n m f h hf⟩
theorem Aui {n:Nat} {l:List Pf} (h:Few n l) (j:Nat):(l.getD j default).p.length≤13:=by
 by_cases hj:j < l.length
 ·rw [List.getD_eq_getElem?_getD,List.getElem?_eq_getElem hj]
  exact h.2 _ (List.getElem_mem hj)
 ·rw [List.getD_eq_getElem?_getD,List.getElem?_eq_none Aa]
  decide
theorem As1 (a:Int) (L:Nat) (h0:0 < L) (hL:L≤1000):∃ i:Nat,i < L∧(BitVec.ofInt 64 a % BitVec.ofInt 64 (L:Int)).toInt=(i:Int):=by
 have e:(BitVec.ofInt 64 (L:Int)).toNat=L:=by rw [BitVec.ofInt_natCast,BitVec.toNat_ofNat,Nat.mod_eq_of_lt Aa]
 have h:(BitVec.ofInt 64 a % BitVec.ofInt 64 (L:Int)).toNat < L:=by rw [BitVec.toNat_umod,e];exact Nat.mod_lt _ h0
 exact ⟨_,h,by rw [BitVec.toInt_eq_toNat_cond,if_pos Aa]⟩
def spH (kd:Int) (q:Nat) (w:BitVec 64) (root:Dg) (g:Nat→BitVec 64) (pc:BitVec 64) (hl:Bool) (xt:BitVec 64) (pre:Pr) (R:Dg) (G:Nat→BitVec 64) (pc':BitVec 64) (hl':Bool) (xt':BitVec 64) (P:Pr):Prop :=
 (kd=1∧(∀ j,j < 32→R.at j=if j=q then root.at q ^^^ w.setWidth 8 else root.at j)∧G=g∧pc'=pc∧hl'=hl∧xt'=xt∧P=pre) ∨
 (kd=2∧R=root∧(∀ j,j < 16→G j=if j=q % 16 then g (q % 16) ^^^ w else g j)∧pc'=pc∧hl'=hl∧xt'=xt∧P=pre) ∨
 (kd=3∧R=root∧G=g∧pc'=pc ^^^ w∧hl'=hl∧xt'=xt∧P=pre) ∨
 (kd=4∧R=root∧G=g∧pc'=pc∧hl' = !hl∧xt'=xt∧P=pre) ∨
 (kd=5∧R=root∧G=g∧pc'=pc∧hl'=hl∧xt'=xt ^^^ w∧P=pre) ∨
 (kd=8∧R=root∧G=g∧pc'=pc∧hl'=hl∧xt'=xt∧∀ j,j < 64→P.at j=if j=2 * q then pre.at (2 * q) ^^^ w.setWidth 8 else pre.at j)
theorem Aum {M:Seat} (ok:OkSp M) (kd a b:Int) (w:BitVec 64) (root:Dg) (g:Nat→BitVec 64) (pc:BitVec 64) (hl:Bool) (xt:BitVec 64) (pre:Pr) (q:Nat) (hq:q < 32) (hqe:(BitVec.ofInt 64 b % 32#64).toInt=(q:Int)) (R:Dg) (G:Nat→BitVec 64) (pc':BitVec 64) (hl':Bool) (xt':BitVec 64) (P:Pr)
 (hk:spH kd q w root g pc hl xt pre R G pc' hl' xt' P ∨ ((¬ kd=1∧¬ kd=2∧¬ kd=3∧¬ kd=4∧¬ kd=5∧¬ kd=8)∧R=root∧G=g∧pc'=pc∧hl'=hl∧xt'=xt∧P=pre)) :
 Af M 99 [spK kd a b w,Vf root ⟨g,pc,hl,xt⟩ [] pre] [] 0 (Q3 (Vf R ⟨G,pc',hl',xt'⟩ [] P) [] 0):=by
 have mx:max (1:Int) 0=1:=rfl
 have nz:(BitVec.ofInt 64 1=0#64)=False:=eq_false Ak
 have f3:((q:Int) < 32)=True:=eq_true Aa
 have f5:(0≤(q:Int))=True:=eq_true Aa
 have f6:(q:Int).tmod 16=((q % 16:Nat):Int):=Atq q 16
 have f7:IntKind.i64.wrap (2 * (q:Int))=((2 * q:Nat):Int):=A9
 have f8:(((q % 16:Nat):Int) < 16)=True:=eq_true Aa
 have f9:(((2 * q:Nat):Int) < 64)=True:=eq_true Aa
 refine Ac ok.k99 rfl fun x hx=>?_
 rcases hk with (⟨hk,hR,rfl,rfl,rfl,rfl,rfl⟩ | ⟨hk,rfl,hR,rfl,rfl,rfl,rfl⟩ | ⟨hk,rfl,rfl,hR,rfl,rfl,rfl⟩ | ⟨hk,rfl,rfl,rfl,hR,rfl,rfl⟩ | ⟨hk,rfl,rfl,rfl,rfl,hR,rfl⟩ | ⟨hk,rfl,rfl,rfl,rfl,rfl,hR⟩) | ⟨⟨k1,k2,k3,k4,k5,k8⟩,rfl,rfl,rfl,rfl,rfl,rfl⟩
 all_goals
  first | subst hk | skip
  first | refine es 2000 ?_;(simp only [f99,c99,spK,Vf,Hd.v,G4,Fq,List.length_nil,k1,k2,k3,k4,k5,k8,hqe,mx,nz,f3,f5,f6,f7,f8,f9,seval]) | refine es 2000 ?_;(simp only [f99,c99,spK,Vf,Hd.v,G4,Fq,List.length_nil,hqe,mx,nz,f3,f5,f6,f7,f8,f9,seval])
  repeat refine sd ?_
  refine Aq.mk hx [] [640] (Vf R ⟨G,pc',hl',xt'⟩ [] P) [] 0 Ak (by (simp only [Fk,seval])) ?_ trivial ⟨rfl,rfl,rfl⟩
  simp only [IT,Vf,Hd.v,AU,Fq,List.length_nil,seval]
  (try subst hR)
  (repeat' apply And.intro)
  all_goals first
   | rfl
   | (intro j hj
      first
      | exact absurd hj (Nat.not_lt_zero _)
      | (rw [hR j hj];split <;> (rename_i h;simp only [h,CD,LY,seval])))
theorem Auo {M:Seat} (ok:OkSp M) (kd a b:Int) (w:BitVec 64) (root:Dg) (g:Nat→BitVec 64) (pc:BitVec 64) (hl:Bool) (xt:BitVec 64) (l:List Pf) (pre:Pr) (h0:0 < l.length) (hL:l.length≤200) (i:Nat) (hi:i < l.length) (hie:(BitVec.ofInt 64 a % BitVec.ofInt 64 (l.length:Int)).toInt=(i:Int)) (q:Nat) (hq:q < 32) (hqe:(BitVec.ofInt 64 b % 32#64).toInt=(q:Int))
 (u:BitVec 64) (p:List Dg) (hP:p.length≤13) (e2:Dz l i=Ir ⟨u,p⟩) (R:Dg) (G:Nat→BitVec 64) (pc':BitVec 64) (hl':Bool) (xt':BitVec 64) (P:Pr) (l':List Pf)
 (hk:(spH kd q w root g pc hl xt pre R G pc' hl' xt' P∧l'.length=l.length∧∀ j,j < l.length→Dz l' j=Dz l j) ∨
  (R=root∧G=g∧pc'=pc∧hl'=hl∧xt'=xt∧P=pre ∧
   (((¬ kd=1∧¬ kd=2∧¬ kd=3∧¬ kd=4∧¬ kd=5∧¬ kd=8∧¬ kd=6∧¬ kd=7∧¬ kd=9∧¬ kd=10∧¬ kd=11∧¬ kd=12)∧l'.length=l.length∧∀ j,j < l.length→Dz l' j=Dz l j) ∨
   (kd=7∧p.length=0∧l'.length=l.length∧∀ j,j < l.length→Dz l' j=Dz l j) ∨
   (kd=12∧p.length=0∧l'.length=l.length∧∀ j,j < l.length→Dz l' j=Dz l j) ∨
   (kd=6∧l'.length=l.length∧∀ j,j < l.length→Dz l' j=if j=i then Ir ⟨u ^^^ w,p⟩ else Dz l j) ∨
   (kd=12∧0 < p.length∧l'.length=l.length∧∀ j,j < l.length→Dz l' j=if j=i then Ir ⟨u,p.tail⟩ else Dz l j) ∨
   (kd=9∧l'.length=i + (l.length - (i + 1))∧∀ j,j < i + (l.length - (i + 1))→Dz l' j=if j < i then Dz l j else Dz l (i + 1 + (j - i))) ∨
   (kd=10∧l'.length=l.length + 1∧∀ j,j < l.length + 1→Dz l' j=if j < l.length then Dz l j else Dz l i) ∨
   (kd=11∧i=0∧l'.length=l.length∧∀ j,j < l.length→Dz l' j=Dz l j) ∨
   (kd=11∧¬ i=0∧l'.length=l.length∧∀ j,j < l.length→Dz l' j=if j=0 then Dz l i else if j=i then Dz l 0 else Dz l j) ∨
   (kd=7∧∃ (q2:Nat) (p':List Dg),q2 < p.length∧(BitVec.ofInt 64 b % BitVec.ofInt 64 (p.length:Int)).toInt=(q2:Int)∧p'.length=p.length ∧
    (∀ t,t < p.length→∀ j,j < 32→(p'.getD t Dg.zero).at j=if t=q2 then if j=q then (p.getD q2 Dg.zero).at q ^^^ w.setWidth 8 else (p.getD t Dg.zero).at j else (p.getD t Dg.zero).at j) ∧
    l'.length=l.length∧∀ j,j < l.length→Dz l' j=if j=i then Ir ⟨u,p'⟩ else Dz l j)))) :
 Af M 99 [spK kd a b w,Vf root ⟨g,pc,hl,xt⟩ l pre] [] 0 (Q3 (Vf R ⟨G,pc',hl',xt'⟩ l' P) [] 0):=by
 have mx:max (1:Int) (l.length:Int)=(l.length:Int):=Aa
 have nz:(BitVec.ofInt 64 (l.length:Int)=0#64)=False:=eq_false (fun e=>by
  have:=congrArg BitVec.toNat e
  rw [BitVec.ofInt_natCast,BitVec.toNat_ofNat,Nat.mod_eq_of_lt Aa] at this
  have:l.length=0:=this
  omega)
 have e3:Dz l i = .st 2 (.fcons 0 (W u) (.fcons 1 (.lst 32 p.length (Gc p)) .fnil)):=e2
 have f1:((0:Int) < (l.length:Int))=True:=eq_true Aa
 have f2:((i:Int) < (l.length:Int))=True:=eq_true Aa
 have f3:((q:Int) < 32)=True:=eq_true Aa
 have f4:(0≤(i:Int))=True:=eq_true Aa
 have f5:(0≤(q:Int))=True:=eq_true Aa
 have f6:(q:Int).tmod 16=((q % 16:Nat):Int):=Atq q 16
 have f7:IntKind.i64.wrap (2 * (q:Int))=((2 * q:Nat):Int):=A9
 have f8:(((q % 16:Nat):Int) < 16)=True:=eq_true Aa
 have f9:(((2 * q:Nat):Int) < 64)=True:=eq_true Aa
 have fw:IntKind.i64.wrap ((i:Int) + 1)=((i + 1:Nat):Int):=A9
 have fx:(l.length * 2≤70368744177664)=True:=eq_true Aa
 have tl1:p.tail.length=p.length - 1:=List.length_tail
 have tl2:∀ k,p.tail.getD k Dg.zero=p.getD (1 + k) Dg.zero:=fun k=>by rw [List.getD_eq_getElem?_getD,List.getD_eq_getElem?_getD,List.getElem?_tail,Nat.add_comm]
 refine Ac ok.k99 rfl fun x hx=>?_
 rcases hk with ⟨⟨hk,hR,rfl,rfl,rfl,rfl,rfl⟩ | ⟨hk,rfl,hR,rfl,rfl,rfl,rfl⟩ | ⟨hk,rfl,rfl,hR,rfl,rfl,rfl⟩ | ⟨hk,rfl,rfl,rfl,hR,rfl,rfl⟩ | ⟨hk,rfl,rfl,rfl,rfl,hR,rfl⟩ | ⟨hk,rfl,rfl,rfl,rfl,rfl,hR⟩,c1,c2⟩ |
  ⟨rfl,rfl,rfl,rfl,rfl,rfl,⟨⟨k1,k2,k3,k4,k5,k8,k6,k7,k9,k10,k11,k12⟩,c1,c2⟩ | ⟨hk,p0,c1,c2⟩ | ⟨hk,p0,c1,c2⟩ | ⟨hk,c1,c2⟩ | ⟨hk,p0,c1,c2⟩ | ⟨hk,c1,c2⟩ | ⟨hk,c1,c2⟩ | ⟨hk,i0,c1,c2⟩ | ⟨hk,i0,c1,c2⟩ | ⟨hk,q2,p',p0,qe,pl,pp,c1,c2⟩⟩
 all_goals
  first | subst hk | skip
  first | subst i0 | skip
  have p1:0=0:=rfl
  have g1:0=0:=rfl
  have g2:0=0:=rfl
  have g3:0=0:=rfl
  first | (have p1:((0:Int) < (p.length:Int))=True:=eq_true Aa) | (have p1:((0:Int) < (p.length:Int))=False:=eq_false Aa) | skip
  first | (have g1:(0=i)=False:=eq_false (fun h=>i0 h.symm);have g2:Dz l 0 = .st 2 (.fcons 0 (W (l.getD 0 default).v) (.fcons 1 (.lst 32 (l.getD 0 default).p.length (Gc (l.getD 0 default).p)) .fnil)):=rfl) | skip
  first | (have g1:((q2:Int) < (p.length:Int))=True:=eq_true Aa;have g2:(BitVec.ofInt 64 (p.length:Int)=0#64)=False:=eq_false (fun e=>by (have:=congrArg BitVec.toNat e;rw [BitVec.ofInt_natCast,BitVec.toNat_ofNat,Nat.mod_eq_of_lt Aa] at this;have:p.length=0:=this;omega));have g3:q2 < p.length:=p0) | skip
  first | refine es 2000 ?_;(simp only [f99,c99,spK,Vf,Hd.v,G4,Fq,k1,k2,k3,k4,k5,k8,k6,k7,k9,k10,k11,k12,hie,hqe,mx,nz,f1,f2,f3,f4,f5,f6,f7,f8,f9,fx,e3,seval]) | refine es 2000 ?_;(simp only [f99,c99,spK,Vf,Hd.v,G4,Fq,p1,qe,g1,g2,g3,hie,hqe,mx,nz,f1,f2,f3,f4,f5,f6,f7,f8,f9,fw,fx,e3,seval]) | refine es 2000 ?_;(simp only [f99,c99,spK,Vf,Hd.v,G4,Fq,p1,g1,g2,hie,hqe,mx,nz,f1,f2,f3,f4,f5,f6,f7,f8,f9,fw,fx,e3,seval])
  repeat refine sd ?_
  first
  | (have _ : l'.length = i + (l.length - (i + 1)) := c1
     refine Aq.mk hx [] [1536,832] (Vf R ⟨G,pc',hl',xt'⟩ l' P) [] 0 Ak (by (simp only [Fk,seval])) ?_ trivial ⟨rfl,rfl,rfl⟩)
  | (have _ : l'.length = l.length + 1 := c1
     refine Aq.mk hx [] [1408,832] (Vf R ⟨G,pc',hl',xt'⟩ l' P) [] 0 Ak (by (simp only [Fk,seval])) ?_ trivial ⟨rfl,rfl,rfl⟩)
  | refine Aq.mk hx [] [640,832] (Vf R ⟨G,pc',hl',xt'⟩ l' P) [] 0 Ak (by (simp only [Fk,seval])) ?_ trivial ⟨rfl,rfl,rfl⟩
  simp only [IT,Vf,Hd.v,AU,Fq,c1,seval]
  (try subst hR)
  (repeat' apply And.intro)
  all_goals first
   | rfl
   | (intro j hj
      first
      | (rw [hR j hj];split <;> (rename_i h;simp only [h,CD,LY,seval]))
      | (rw [c2 j hj]
         (repeat' split)
         all_goals first
          | exact N4 _ _ _ _
          | (exfalso;omega)
          | (rw [e3];simp only [Gc,dg,LY,seval];first | done | rfl)
          | (rw [‹j=_›,e3];simp only [Gc,dg,LY,seval];first | done | rfl)
          | (simp only [Ir,Gc,dg,LY,seval];first | done | rfl)
          | (simp only [Ir, Gc, dg, pl, LY, seval]
             refine ⟨rfl,fun t ht=>?_⟩
             have pq:=pp t ht
             split
             all_goals
              rename_i h
              simp only [Aw,true_and]
              intro s hs
              rw [pq s hs]
              simp only [h,CD]
              first | done | (split <;> (rename_i h;simp only [h,CD,LY,seval])) | simp only [LY,seval])
          | (simp only [Ir, Gc, dg, tl1, tl2, LY, seval]
             exact ⟨rfl,by omega⟩)))
end Mv
