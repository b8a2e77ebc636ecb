/- A part. -/
import Derived.Test.YtncipgmjhaiagaaGreatDoorFS
set_option linter.all false
set_option maxRecDepth 20000
set_option maxHeartbeats 32000000
namespace Mv
open Go
def Aps (m:Mc):Prop:=m.hl=false∧¬ 8192#64≤m.pc∧m.f m.pc.toNat >>> 32 &&& 255#64=0#64∧AT (m.f m.pc.toNat)=34∧(wi (m.g (pF (m.f m.pc.toNat) 48)) 8#64 && wi (m.g (pF (m.f m.pc.toNat) 44)) 4#64)=true
def Ap8 (m:Mc):Pr:=Pr.mk' (A6 fun j=>m.f ((m.g (pF (m.f m.pc.toNat) 48)).toNat + j))
theorem Apz {m:Mc} (h:Aps m):Aaj m:=⟨h.1,h.2.1,h.2.2.1,.inl ⟨h.2.2.2.1,h.2.2.2.2⟩⟩
theorem Aqn {M:Seat} (ok:OkT M) (s:SM) (hs:s.n < 1099511627776):∃ s',S7 M s s'∧s'.m=Tr s.w.pres s.m∧(JT s.w.pres→JT s'.w.pres)∧((¬ Aps s.m∧s'.w=s.w) ∨ (Aps s.m∧s'.w=s.w.add (Ap8 s.m))):=by
 obtain ⟨w,l,n,q,m⟩:=s
 by_cases ha:Aaj m
 ·obtain ⟨f,g,pc,hl,xt⟩:=m
  obtain ⟨h1,hpc,h2,ho⟩:=ha
  dsimp only at h1 hpc h2 ho hs
  subst h1
  rcases ho with ⟨hop,hw⟩ | ⟨hop,hw⟩
  ·simp only [Bool.and_eq_true] at hw
   have ha:=B8 hw.1
   have hb:=B8 hw.2
   have hX:=Aov w.pres f g pc xt hpc _ rfl hop h2 hw.1 hw.2
   cases n with
   | zero=>exact ⟨⟨_,l,0,q,⟨_,g,_,false,xt⟩⟩,.intro (.NN rfl rfl (L6 ok.okA ok.ok w l f g pc xt hpc _ rfl hop h2 ha hb)) Bu,hX.symm,QY _ _,.inr ⟨⟨rfl,hpc,h2,hop,by simp only [Bool.and_eq_true];exact hw⟩,rfl⟩⟩
   | succ n=>exact ⟨⟨_,l,n + 1,q,⟨_,g,_,false,xt⟩⟩,.intro (.SS (Nat.succ_pos _) (Nat.succ_pos _) (Ks (n + 1) q ok.okA ok.ok w l f g pc xt hpc _ rfl hop h2 ha hb)) Bu,hX.symm,QY _ _,.inr ⟨⟨rfl,hpc,h2,hop,by simp only [Bool.and_eq_true];exact hw⟩,rfl⟩⟩
  ·simp only [Bool.and_eq_true] at hw
   have ha:=B8 hw.1
   have hb:=B8 hw.2
   have hX:=Aoz w.pres f g pc xt hpc _ rfl hop h2 hw.1 hw.2
   obtain ⟨D,hD⟩:∃ D,Dg.mk' (A6 fun j=>f ((g (pF (f pc.toNat) 48)).toNat + j))=D:=⟨_,rfl⟩
   rw [hD] at hX
   obtain ⟨sn,hs'⟩:∃ sn,was l D sn:=by
    cases hc:Dv D l with
    | none=>exact ⟨false,.inr ⟨rfl,.inl hc⟩⟩
    | some b => cases b with
      | false=>exact ⟨false,.inr ⟨rfl,.inr hc⟩⟩
      | true=>exact ⟨true,.inl ⟨rfl,hc⟩⟩
   cases n with
   | zero =>
     have h:=PJ ok.okA ok.ok w l f g pc xt hpc _ rfl hop h2 ha hb D hD _ sn rfl hs'
     rw [hX] at h
     cases sn with
     | true=>exact ⟨⟨w,l,0,q,_⟩,.intro (.NN rfl rfl h) Bu,rfl,id,.inl ⟨fun hc=>by have:=hc.2.2.2.1;dsimp only at this;omega,rfl⟩⟩
     | false=>exact ⟨⟨w,_,1,fun _=>D,_⟩,.intro (.NS rfl Nat.one_pos h) Bu,rfl,id,.inl ⟨fun hc=>by have:=hc.2.2.2.1;dsimp only at this;omega,rfl⟩⟩
   | succ n =>
     have h:=OM ok.okA ok.ok w (n + 1) hs q l f g pc xt hpc _ rfl hop h2 ha hb D hD _ sn rfl hs'
     rw [hX] at h
     cases sn with
     | true=>exact ⟨⟨w,l,n + 1,q,_⟩,.intro (.SS (Nat.succ_pos _) (Nat.succ_pos _) h) Bu,rfl,id,.inl ⟨fun hc=>by have:=hc.2.2.2.1;dsimp only at this;omega,rfl⟩⟩
     | false=>exact ⟨⟨w,_,n + 1 + 1,_,_⟩,.intro (.SN (Nat.succ_pos _) (Nat.succ_pos _) h) Bu,rfl,id,.inl ⟨fun hc=>by have:=hc.2.2.2.1;dsimp only at this;omega,rfl⟩⟩
 ·exact ⟨⟨w,l,n,q,Tr w.pres m⟩,⟨.mach (Apb ok.ok ok.okP w.pres m ha) rfl,Nat.le_succ _⟩,rfl,id,.inl ⟨fun hc=>ha (Apz hc),rfl⟩⟩
theorem Aqo {M:Seat} (ok:OkRH M) (pres:List (Dg × Pr)) (s:RD) (hR:Ap3 s.l pres) (hs:s.n < 4294967296) (hl:s.l.length < 4294967296):∃ s',TrD M s s'∧s'.n≤s.n + 1∧s'.l.length≤s.l.length + 1∧s'.m=Tr pres s.m∧((¬ Aps s.m∧s'.l=s.l) ∨ (Aps s.m∧s'.l=(Ao1 (s.l,s.met) (Ap8 s.m)).1)):=by
 obtain ⟨l,met,n,q,m⟩:=s
 by_cases ha:Aaj m
 ·obtain ⟨f,g,pc,hl',xt⟩:=m
  obtain ⟨h1,hpc,h2,ho⟩:=ha
  dsimp only at h1 hpc h2 ho hs hl
  subst h1
  rcases ho with ⟨hop,hw⟩ | ⟨hop,hw⟩
  ·simp only [Bool.and_eq_true] at hw
   have hi:Co (f pc.toNat)=true:=by simp only [Co,decide_eq_true_eq];exact ⟨by omega,h2⟩
   have hH:Aps ⟨f,g,pc,false,xt⟩:=⟨rfl,hpc,h2,hop,by simp only [Bool.and_eq_true];exact hw⟩
   have hM:(⟨mS f (g (pF (f pc.toNat) 44)).toNat 4 (CE (Pr.mk' (A6 fun j=>f ((g (pF (f pc.toNat) 48)).toNat + j)))).at 32,g,pc + 1#64,false,xt⟩:Mc)=Tr pres ⟨f,g,pc,false,xt⟩:=by
    rw [Aov pres f g pc xt hpc _ rfl hop h2 hw.1 hw.2,Aqh]
    congr 1
    funext j
    exact Aq3 f _ 4 _ j
   have hY:Gq l (CE (Pr.mk' (A6 fun j=>f ((g (pF (f pc.toNat) 48)).toNat + j))))=l.length→l ++ [(CE (Pr.mk' (A6 fun j=>f ((g (pF (f pc.toNat) 48)).toNat + j))),(Pr.mk' (A6 fun j=>f ((g (pF (f pc.toNat) 48)).toNat + j))))]=(Ao1 (l,met) (Ap8 ⟨f,g,pc,false,xt⟩)).1:=fun hk=>by
    show _=(Ao1 (l,met) (Pr.mk' (A6 fun j=>f ((g (pF (f pc.toNat) 48)).toNat + j)))).1
    rw [Ao1,if_pos hk]
   have hZ:¬ Gq l (CE (Pr.mk' (A6 fun j=>f ((g (pF (f pc.toNat) 48)).toNat + j))))=l.length→P4 l (Pr.mk' (A6 fun j=>f ((g (pF (f pc.toNat) 48)).toNat + j)))=(Ao1 (l,met) (Ap8 ⟨f,g,pc,false,xt⟩)).1:=fun hk=>by
    show _=(Ao1 (l,met) (Pr.mk' (A6 fun j=>f ((g (pF (f pc.toNat) 48)).toNat + j)))).1
    rw [Ao1,if_neg hk]
   by_cases hk:Gq l (CE (Pr.mk' (A6 fun j=>f ((g (pF (f pc.toNat) 48)).toNat + j))))=l.length
   ·cases n with
    | zero=>exact ⟨⟨_,met,0,q,⟨_,g,_,false,xt⟩⟩,.NG rfl rfl (No ok f g pc xt hpc _ rfl hop hi _ _ rfl rfl hw.1 hw.2 l _ met met _ (JW ok.b ok.g.r _ met l hl hk)),by simp,by simp,hM,.inr ⟨hH,hY hk⟩⟩
    | succ n=>exact ⟨⟨_,met,n + 1,q,⟨_,g,_,false,xt⟩⟩,.SG (Nat.succ_pos _) (Nat.succ_pos _) (NZ (n + 1) q ok f g pc xt hpc _ rfl hop hi _ _ rfl rfl hw.1 hw.2 l _ met met _ (PO (n + 1) q ok.b ok.g.r _ met l hl hk)),by simp,by simp,hM,.inr ⟨hH,hY hk⟩⟩
   ·cases n with
    | zero=>exact ⟨⟨_,_,0,q,⟨_,g,_,false,xt⟩⟩,.NO rfl rfl (Nj ok f g pc xt hpc _ rfl hop hi _ _ rfl rfl hw.1 hw.2 l _ met _ _ (Kr ok.b ok.g.r _ met l hl hk)),by simp,by simp [Pb],hM,.inr ⟨hH,hZ hk⟩⟩
    | succ n=>exact ⟨⟨_,_,n + 1,q,⟨_,g,_,false,xt⟩⟩,.SO (Nat.succ_pos _) (Nat.succ_pos _) (NC (n + 1) q ok f g pc xt hpc _ rfl hop hi _ _ rfl rfl hw.1 hw.2 l _ met _ _ (PV (n + 1) q ok.b ok.g.r _ met l hl hk)),by simp,by simp [Pb],hM,.inr ⟨hH,hZ hk⟩⟩
  ·simp only [Bool.and_eq_true] at hw
   have hi:Co (f pc.toNat)=true:=by simp only [Co,decide_eq_true_eq];exact ⟨by omega,h2⟩
   obtain ⟨D,hD⟩:∃ D,Dg.mk' (A6 fun j=>f ((g (pF (f pc.toNat) 48)).toNat + j))=D:=⟨_,rfl⟩
   have hQ:=Aoz pres f g pc xt hpc _ rfl hop h2 hw.1 hw.2
   rw [hD] at hQ
   have hno:¬ Aps ⟨f,g,pc,false,xt⟩:=fun hc=>by have:=hc.2.2.2.1;dsimp only at this;omega
   have hMm:Gq l D=l.length→(⟨f,g,pc,true,18446744073709551615#64⟩:Mc)=Tr pres ⟨f,g,pc,false,xt⟩:=fun hk=>by
    rcases hR D with ⟨_,h2⟩ | ⟨h1,_⟩
    ·rw [h2] at hQ;exact Arf hQ
    ·exact absurd hk h1
   have hMf:¬ Gq l D=l.length→(⟨mS f (g (pF (f pc.toNat) 44)).toNat 8 (rp l (Gq l D)).at 64,g,pc + 1#64,false,xt⟩:Mc)=Tr pres ⟨f,g,pc,false,xt⟩:=fun hk=>by
    rcases hR D with ⟨h1,_⟩ | ⟨_,h2⟩
    ·exact absurd h1 hk
    ·rw [h2] at hQ
     rw [← Arf (m:=⟨_,g,pc + 1#64,false,xt⟩) hQ]
     congr 1
     funext j
     exact Aq3 f _ 8 _ j
   cases n with
   | zero =>
     have hG:=R1 ok.g D met l hl
     by_cases hk:Gq l D=l.length
     ·rw [MD l D hk] at hG
      exact ⟨⟨l,met,1,fun _=>D,⟨f,g,pc,true,_⟩⟩,.NS rfl Nat.one_pos (Ow ok f g pc xt hpc _ rfl hop hi _ _ rfl rfl hw.1 hw.2 l met D hD _ hG),by simp,by simp,hMm hk,.inl ⟨hno,rfl⟩⟩
     ·rw [K0 l D hk] at hG
      exact ⟨⟨l,met,1,fun _=>D,⟨_,g,_,false,xt⟩⟩,.NS rfl Nat.one_pos (Ou ok f g pc xt hpc _ rfl hop hi _ _ rfl rfl hw.1 hw.2 l met D hD _ hG),by simp,by simp,hMf hk,.inl ⟨hno,rfl⟩⟩
   | succ n =>
     have hG:=RI ok.g (n + 1) hs q D met l hl
     cases hf:Zj q D (n + 1) with
     | true =>
       simp only [hf,if_true] at hG
       by_cases hk:Gq l D=l.length
       ·rw [MD l D hk] at hG
        exact ⟨⟨l,met,n + 1,q,⟨f,g,pc,true,_⟩⟩,.SO (Nat.succ_pos _) (Nat.succ_pos _) (P9 (n + 1) q ok f g pc xt hpc _ rfl hop hi _ _ rfl rfl hw.1 hw.2 l met D hD _ hG),by simp,by simp,hMm hk,.inl ⟨hno,rfl⟩⟩
       ·rw [K0 l D hk] at hG
        exact ⟨⟨l,met,n + 1,q,⟨_,g,_,false,xt⟩⟩,.SO (Nat.succ_pos _) (Nat.succ_pos _) (PY (n + 1) q ok f g pc xt hpc _ rfl hop hi _ _ rfl rfl hw.1 hw.2 l met D hD _ hG),by simp,by simp,hMf hk,.inl ⟨hno,rfl⟩⟩
     | false =>
       simp only [hf,TJ] at hG
       by_cases hk:Gq l D=l.length
       ·rw [MD l D hk] at hG
        exact ⟨⟨l,met,n + 1 + 1,_,⟨f,g,pc,true,_⟩⟩,.ST (Nat.succ_pos _) (Nat.succ_pos _) (PG (n + 1) q _ ok f g pc xt hpc _ rfl hop hi _ _ rfl rfl hw.1 hw.2 l met D hD _ hG),by simp,by simp,hMm hk,.inl ⟨hno,rfl⟩⟩
       ·rw [K0 l D hk] at hG
        exact ⟨⟨l,met,n + 1 + 1,_,⟨_,g,_,false,xt⟩⟩,.ST (Nat.succ_pos _) (Nat.succ_pos _) (Po (n + 1) q _ ok f g pc xt hpc _ rfl hop hi _ _ rfl rfl hw.1 hw.2 l met D hD _ hG),by simp,by simp,hMf hk,.inl ⟨hno,rfl⟩⟩
 ·exact ⟨⟨l,met,n,q,Tr pres m⟩,.plain (Aq4 ok.m pres m ha) rfl rfl rfl rfl,Nat.le_succ _,Nat.le_succ _,rfl,.inl ⟨fun hc=>ha (Apz hc),rfl⟩⟩
variable {M:Seat}
theorem Aqz (ok:OkT M) (s:SM):∃ s',s.n < 1099511627776→S7 M s s'∧s'.m=Tr s.w.pres s.m∧(JT s.w.pres→JT s'.w.pres)∧((¬ Aps s.m∧s'.w=s.w) ∨ (Aps s.m∧s'.w=s.w.add (Ap8 s.m))):=by
 by_cases h:s.n < 1099511627776
 ·obtain ⟨s',hs⟩:=Aqn ok s h
  exact ⟨s',fun _=>hs⟩
 ·exact ⟨s,fun h1=>absurd h1 h⟩
theorem Aq2 (ok:OkRH M) (pres:List (Dg × Pr)) (s:RD):∃ s',Ap3 s.l pres→s.n < 4294967296→s.l.length < 4294967296→TrD M s s'∧s'.n≤s.n + 1∧s'.l.length≤s.l.length + 1∧s'.m=Tr pres s.m∧((¬ Aps s.m∧s'.l=s.l) ∨ (Aps s.m∧s'.l=(Ao1 (s.l,s.met) (Ap8 s.m)).1)):=by
 by_cases h:Ap3 s.l pres∧s.n < 4294967296∧s.l.length < 4294967296
 ·obtain ⟨s',hs⟩:=Aqo ok pres s h.1 h.2.1 h.2.2
  exact ⟨s',fun _ _ _=>hs⟩
 ·exact ⟨s,fun h1 h2 h3=>absurd ⟨h1,h2,h3⟩ h⟩
noncomputable def nx2 (okT:OkT M) (okR:OkRH M) (p:SM × RD):SM × RD:=(Classical.choose (Aqz okT p.1),Classical.choose (Aq2 okR p.1.w.pres p.2))
noncomputable def it2 (okT:OkT M) (okR:OkRH M) (p:SM × RD):Nat→SM × RD
 | 0=>p
 | i + 1=>nx2 okT okR (it2 okT okR p i)
structure Alike (s:SM) (t:RD):Prop where
 m:s.m=t.m
 r:Ap3 t.l s.w.pres
 p:JT s.w.pres
structure Nx2 (M:Seat) (s s':SM) (t t':RD):Prop where
 hs:S7 M s s'
 ht:TrD M t t'
 x:s'.m=Tr s.w.pres s.m
 a:Alike s' t'
theorem Aqx (okT:OkT M) (okR:OkRH M) (p:SM × RD) (h:Alike p.1 p.2) (h1:p.1.n < 1099511627776) (h2:p.2.n < 4294967296) (h3:p.2.l.length < 4294967296) :
 Nx2 M p.1 (nx2 okT okR p).1 p.2 (nx2 okT okR p).2∧(nx2 okT okR p).2.n≤p.2.n + 1∧(nx2 okT okR p).2.l.length≤p.2.l.length + 1:=by
 obtain ⟨a1,a2,a3,a4⟩:=Classical.choose_spec (Aqz okT p.1) h1
 obtain ⟨b1,b2,b3,b4,b5⟩:=Classical.choose_spec (Aq2 okR p.1.w.pres p.2) h.r h2 h3
 refine ⟨⟨a1,b1,a2,⟨a2.trans (by rw [h.m];exact b4.symm),?_,a3 h.p⟩⟩,b2,b3⟩
 show Ap3 (Classical.choose (Aq2 okR p.1.w.pres p.2)).l (Classical.choose (Aqz okT p.1)).w.pres
 rcases a4 with ⟨c1,c2⟩ | ⟨c1,c2⟩
 ·rcases b5 with ⟨d1,d2⟩ | ⟨d1,d2⟩
  ·rw [c2,d2];exact h.r
  ·exact absurd (h.m ▸ d1) c1
 ·rcases b5 with ⟨d1,d2⟩ | ⟨d1,d2⟩
  ·exact absurd (h.m ▸ c1) d1
  ·rw [c2,d2,Ap4,h.m]
   exact Ap2 (p.2.l,p.2.met) _ _ h.r
theorem Aqa (okT:OkT M) (okR:OkRH M) (p:SM × RD) (h:Alike p.1 p.2) (h1:p.1.n < 2147483648) (h2:p.2.n < 2147483648) (h3:p.2.l.length < 2147483648):∀ i,i < 2147483648 →
 Alike (it2 okT okR p i).1 (it2 okT okR p i).2∧(it2 okT okR p i).1.n≤p.1.n + i∧(it2 okT okR p i).2.n≤p.2.n + i∧(it2 okT okR p i).2.l.length≤p.2.l.length + i
 | 0,_=>⟨h,Nat.le_refl _,Nat.le_refl _,Nat.le_refl _⟩
 | i + 1, hi => by
   obtain ⟨a,b,c,d⟩:=Aqa okT okR p h h1 h2 h3 i Aa
   have e:it2 okT okR p (i + 1)=nx2 okT okR (it2 okT okR p i):=rfl
   obtain ⟨n1,n2,n3⟩:=Aqx okT okR (it2 okT okR p i) a Aa Aa Aa
   have n4:=n1.hs.2
   rw [e]
   exact ⟨n1.a,by omega,by omega,by omega⟩
theorem Arg (okT:OkT M) (okR:OkRH M) (p:SM × RD) (h:Alike p.1 p.2) (h1:p.1.n < 2147483648) (h2:p.2.n < 2147483648) (h3:p.2.l.length < 2147483648) (i:Nat) (hi:i < 2147483648) :
 Nx2 M (it2 okT okR p i).1 (it2 okT okR p (i + 1)).1 (it2 okT okR p i).2 (it2 okT okR p (i + 1)).2:=by
 obtain ⟨a,b,c,d⟩:=Aqa okT okR p h h1 h2 h3 i hi
 exact (Aqx okT okR (it2 okT okR p i) a Aa Aa Aa).1
structure OkAt (M:Seat):Prop where
 t:OkT M
 r:OkRH M
 kx:OkI75 M
 k95:Al M 95 f95=true
 k196:Al M 196 Qz=true
def Ao9 (n:Nat) (pf:Nat→Pr) (pv:V):Prop:=pv=(.lst 64 n fun i=>At (pf i)) ∨ (pv = .nils∧n=0)
variable {M:Seat}
theorem Aq7 (w:WS) (rl:List (Dg × Pr)) (met:Bool) (f:Nat→BitVec 64) (rs:List (BitVec 64)) (k:Int) (T:Nat→SM) (U:Nat→RD) (hT0:T 0=Ta w f rs (min rs.length 16)) (hU0:U 0=SE rl met f rs (min rs.length 16)) (hst:∀ i,i < 60→S7 M (T i) (T (i + 1))) (htt:∀ i,i < 60→TrD M (U i) (U (i + 1))) {x:Ctx} (hx:x.k=0) {A:List V} {H:Hp} {N:Nat}
 (hw:Aj M x A H N (fr 84 [(1,Bn rs),(3,.int .i64 k),(11,.ptr 0 []),(12,.ptr 10 []),(13,.ptr 5 []),(15,.ptr 7 []),(44,.int .i64 (min rs.length 16:Nat)),(45,.int .i64 (0:Nat))]) (Nh (Ta w f rs 0) ++ dN (SE rl met f rs 0)) 14) :
 Gz M x (Aq M x [RVr.tmp 8,RVr.tmp 9,RVr.tmp 10] fun r H' k'=>r=BD (.ptr 5 []) (.ptr 0 []) (.ptr 7 [])∧H'=atH (T (Ya k)) (U (Ya k)).m∧k'=14) atG [.blk 0,.code atR] A H N:=by
 have hv:∀ m:Mc,m.v=mach m.f m.g m.pc m.hl m.xt:=fun _=>rfl
 refine Ag (σ:=Nat) (fun i=>i≤min rs.length 16) (fun i=>fr 84 [(1,Bn rs),(3,.int .i64 k),(11,.ptr 0 []),(12,.ptr 10 []),(13,.ptr 5 []),(15,.ptr 7 []),(44,.int .i64 (min rs.length 16:Nat)),(45,.int .i64 i)]) (fun i=>Nh (Ta w f rs i) ++ dN (SE rl met f rs i)) (fun _=>14) (fun i=>min rs.length 16 - i) 0 Aa hw ?_
 intro i hi
 by_cases hin:i=min rs.length 16
 ·subst hin
  have hlp:=@Apa M T U (Ya k) (by have:=RL k;omega) (by rw [hT0];rfl) (by rw [hU0];rfl) (fun i hi=>hst i (by have:=RL k;omega)) (fun i hi=>htt i (by have:=RL k;omega)) x hx
  rw [hT0,hU0] at hlp
  generalize min rs.length 16=K at *
  have d0:((K:Int) < (K:Int))=False:=eq_false Aa
  have w0:IntKind.i64.wrap (Ya k:Int)=(Ya k:Int):=by have:=RL k;rw [AI Aa]
  clear hT0 hU0
  generalize hS:Ta w f rs K=s at *
  generalize hD:SE rl met f rs K=t at *
  refine es 2000 ?_
  (simp only [atG,atR,d0,Qg,hv,dN,dm,Fj,Zo,w0,seval])
  refine hlp ?_
  refine Aj.fr [0,1,2,3,4,5,6,7,8,9,10,11,12,13] [] hx Ax Ak ?_ ?_
  ·simp only [LY,seval]
  ·simp only [SB,hv,Ik,dN,At,seval]
 ·have d0:((i:Int) < ((min rs.length 16:Nat):Int))=True:=eq_true Aa
  have w0:IntKind.i64.wrap ((i:Int) + 1)=((i + 1:Nat):Int):=A9
  have g1:∀ j,gI rs (i + 1) j=if j=i then rs.getD i 0 else gI rs i j:=fun j=>by
   unfold gI
   by_cases h:j=i
   ·subst h;rw [if_pos Aa,if_pos rfl]
   ·rw [if_neg h]
    by_cases h2:j < i
    ·rw [if_pos h2,if_pos Aa]
    ·rw [if_neg h2,if_neg Aa]
  have hi1:i < rs.length:=Aa
  have hi2:i < 16:=Aa
  refine es 2000 ?_
  (simp only [atG,d0,w0,Qg,hv,Ta,SE,dN,dm,Fj,Bn,ws,seval])
  repeat refine sd ?_
  refine ⟨i + 1,by omega,by omega,?_⟩
  refine Aj.fr [0,1,2,3,4,5,6,7,8,9,10,11,12,13] [] hx Ax Ak ?_ ?_
  ·simp only [Bn,ws,LY,seval]
  ·simp only [g1,JZ,SB,hv,Ta,SE,Ik,dN,At,seval]
theorem Aqb (ok:OkAt M) (w:WS) (R:List (Dg × Pr) × Bool) (pv:V) (hpv:∀ H m z,Bd H m z pv pv) (hSt:Af M 73 [pv] [] 0 (Q3 (Ao (.ptr 0 []) (.ptr 5 [])) (AF w .nils [] ++ RO R.1 R.2) 8)) (l:List In) (v:V) (hv:Aer l v) (hl:l.length < 9223372036854775808) (rs:List (BitVec 64)) (rv:V) (hr:rv=Bn rs ∨ (rv = .nils∧rs=[])) (hrl:rs.length < 9223372036854775808) (k:Int) (T:Nat→SM) (U:Nat→RD) (hT0:T 0=Ta w (ldM l).f rs (min rs.length 16)) (hU0:U 0=SE R.1 R.2 (ldM l).f rs (min rs.length 16)) (hst:∀ i,i < 60→S7 M (T i) (T (i + 1))) (htt:∀ i,i < 60→TrD M (U i) (U (i + 1))) :
 Af M 95 [v,rv,pv,.int .i64 k] [] 0 (Q3 (BD (.ptr 5 []) (.ptr 0 []) (.ptr 7 [])) (atH (T (Ya k)) (U (Ya k)).m) 14):=by
 have okA:=ok.t.okA
 have okW:=ok.t.ok.toOkW
 have okI:=okW.toOkI
 have okS:=okI.toOkV.toOkS
 have okB:=ok.r.b
 have okR:=ok.r.g.r
 have hLN:l=[]→Af M 74 [.nils] [] 0 (Q3 (Ao (.ptr 0 []) .nili) [(0,(ldM l).v)] 1):=fun h=>by subst h;exact Me okA
 have hRN:l=[]→Af M 196 [.nils] [] 0 (Q3 (.ptr 0 []) (Fx (ldM l)) 3):=fun h=>by subst h;exact O1 ok.k196
 have hWN:l=[]→Af M 75 [Hl l] [] 0 (Q3 .nils [] 0):=fun h=>by subst h;exact C4 okI ok.kx _ (.inr rfl)
 have hv':(v = .nils∧l=[]) ∨ (v=Hl l∧l=[]) ∨ (v=Hl l∧0 < l.length):=by
  rcases hv with h | h
  ·by_cases h0:l=[]
   ·exact .inr (.inl ⟨h,h0⟩)
   ·exact .inr (.inr ⟨h,List.length_pos_iff.2 h0⟩)
  ·exact .inl h
 have hlp:=@Aq7 M w R.1 R.2 (ldM l).f rs k T U hT0 hU0 hst htt
 have hW:=Rb okI ok.kx l
 have hLL:Af M 74 _ [] 0 (Q3 (Ao (.ptr 0 []) .nili) [(0,(ldM l).v)] 1):=RC okA (min l.length 8192) (Nat.min_le_right _ _) (fun j=>G7 (l.getD j default))
 have hRL:Af M 196 _ [] 0 (Q3 (.ptr 0 []) (Fx (ldM l)) 3):=OB ok.k196 (min l.length 8192) (Nat.min_le_right _ _) (fun j=>G7 (l.getD j default))
 have hm:∃ f,ldM l=⟨f,fun _=>0#64,0#64,false,0#64⟩:=⟨_,rfl⟩
 obtain ⟨rl,met⟩:=R
 generalize ldM l=m at *
 obtain ⟨f,rfl⟩:=hm
 have hNv:∀ m:Mc,AD m.v:=fun m=>by simp only [Mc.v,mach,AD,Ru,implies_true,and_self]
 have hSv:∀ (m:Mc) H a z,Aw H a z m.v m.v:=fun m H a z=>by simp only [Mc.v,mach,LY,seval]
 have hFv:∀ m:Mc,m.v=mach m.f m.g m.pc m.hl m.xt:=fun _=>rfl
 have hg0:∀ j,gI rs 0 j=0#64:=fun j=>if_neg Aa
 have hrv:rv = .nils→rs=[]:=fun h=>by
  rcases hr with h1 | h1
  ·rw [h] at h1;cases h1
  ·exact h1.2
 have mz:((min (0:Nat) 16:Nat):Int)=0:=rfl
 clear hT0 hU0 hst htt
 refine Ac ok.k95 rfl fun x hx=>?_
 have hlp:=@hlp x hx
 have hr':rv=Bn rs ∨ rv = .nils:=hr.imp id (fun h=>h.1)
 clear hr hv
 rcases hr' with rfl | rfl
 case' inr=>obtain rfl:=hrv rfl
 all_goals rcases hv' with ⟨rfl,h0⟩ | ⟨rfl,h0⟩ | ⟨rfl,h0⟩
 all_goals
  refine es 2000 ?_;(simp only [f95,c95,Bn,LZ,seval])
  have zz:=aq6 PR G0 @RO.eq_1 Ft @BV hpv;refine El (hSt) ?_
  (simp only [Sq,RO,Ft,seval])
  first
  | (refine Ah (C4 okI ok.kx .nils (.inl rfl)) ?_
     (simp only [LZ,seval])
     have zz:=aq4 hFv @mach.eq_1 hNv hSv;refine El (hLN h0) ?_
     (simp only [Cb,hFv,mach,seval])
     refine Ah (C4 okI ok.kx .nils (.inl rfl)) ?_
     (simp only [LZ,seval])
     (have zz:=aq5 @Fx.eq_1 @Cc.eq_1 @Ba.eq_1 hNv hSv;refine El (hRN h0) ?_))
  | ((have zz := MK; refine CI (hWN h0) ?_)
     (simp only [LZ,seval])
     have zz:=aq4 hFv @mach.eq_1 hNv hSv;refine El (hLN h0) ?_
     (simp only [Cb,hFv,mach,seval])
     have zz:=MK;refine CI (hWN h0) ?_
     (simp only [LZ,seval])
     (have zz:=aq5 @Fx.eq_1 @Cc.eq_1 @Ba.eq_1 hNv hSv;refine El (hRN h0) ?_))
  | ((have zz := MK; refine El (hW h0 hl) ?_)
     (simp only [LZ,seval])
     have zz:=aq4 hFv @mach.eq_1 hNv hSv;refine El (hLL) ?_
     (simp only [Cb,hFv,mach,seval])
     have zz:=MK;refine El (hW h0 hl) ?_
     (simp only [LZ,seval])
     (have zz:=aq5 @Fx.eq_1 @Cc.eq_1 @Ba.eq_1 hNv hSv;refine El (hRL) ?_))
  (simp only [Fx,Cc,Fj,Bn,seval])
  refine hlp ?_
  refine Aj.fr [64,65,66,67,68,192,1,320,321,322,69,70,71,2] [] hx Ax Ak ?_ ?_
  ·simp only [Bn,LY,seval]
   first | omega | (simp only [List.length_nil];decide) | (simp;decide) | (simp;rfl)
  ·simp only [hg0,SB,hFv,mach,Ta,SE,Ik,dN,At,seval]
noncomputable def at2 (ok:OkAt M) (l:List In) (rs:List (BitVec 64)) (n:Nat) (pf:Nat→Pr):Nat→SM × RD :=
 it2 ok.t ok.r (Ta (Aog (FK 16) pf (min n 50)) (ldM l).f rs (min rs.length 16),SE (Aoe (BL 16) pf (min n 50)).1 (Aoe (BL 16) pf (min n 50)).2 (ldM l).f rs (min rs.length 16))
theorem Apx (w:WS) (h:JT w.pres) (pf:Nat→Pr):∀ n,JT (Aog w pf n).pres
 | 0=>h
 | n + 1=>by rw [Aog];exact QY _ _ (Apx w h pf n)
theorem Ap0:∀ n,JT (FK n).pres
 | 0=>fun h p hk=>by simp [FK,Dv] at hk
 | n + 1=>by rw [FK];exact QY _ _ (Ap0 n)
theorem Aqs (ok:OkAt M) (l:List In) (rs:List (BitVec 64)) (n:Nat) (pf:Nat→Pr) (i:Nat) (hi:i < 1000) :
 Alike (at2 ok l rs n pf i).1 (at2 ok l rs n pf i).2∧(at2 ok l rs n pf i).1.n≤i∧(at2 ok l rs n pf i).2.n≤i∧(at2 ok l rs n pf i).2.l.length≤66 + i
 ∧ Nx2 M (at2 ok l rs n pf i).1 (at2 ok l rs n pf (i + 1)).1 (at2 ok l rs n pf i).2 (at2 ok l rs n pf (i + 1)).2:=by
 have hl:(Aoe (BL 16) pf (min n 50)).1.length≤66:=by have:=Aol (BL 16) pf (min n 50);have:=Ku 16;omega
 have hr:Ap3 (Aoe (BL 16) pf (min n 50)).1 (Aog (FK 16) pf (min n 50)).pres:=Ap7 _ _ (Aqc 16) pf _
 have hp:JT (Aog (FK 16) pf (min n 50)).pres:=Apx _ (Ap0 16) pf _
 unfold at2
 generalize Aog (FK 16) pf (min n 50)=w at *
 generalize Aoe (BL 16) pf (min n 50)=R at *
 have hA:Alike (Ta w (ldM l).f rs (min rs.length 16)) (SE R.1 R.2 (ldM l).f rs (min rs.length 16)):=⟨rfl,hr,hp⟩
 have h1:(Ta w (ldM l).f rs (min rs.length 16)).n=0:=rfl
 have h2:(SE R.1 R.2 (ldM l).f rs (min rs.length 16)).n=0:=rfl
 have h3:(SE R.1 R.2 (ldM l).f rs (min rs.length 16)).l.length≤66:=hl
 generalize Ta w (ldM l).f rs (min rs.length 16)=s at *
 generalize SE R.1 R.2 (ldM l).f rs (min rs.length 16)=t at *
 obtain ⟨a,b,c,d⟩:=Aqa ok.t ok.r (s,t) hA (by dsimp only;omega) (by dsimp only;omega) (by dsimp only;omega) i Aa
 have e:=Arg ok.t ok.r (s,t) hA (by dsimp only;omega) (by dsimp only;omega) (by dsimp only;omega) i Aa
 dsimp only at b c d
 exact ⟨a,by omega,by omega,by omega,e⟩
theorem Aqv (ok:OkAt M) (l:List In) (v:V) (hv:Aer l v) (hl:l.length < 9223372036854775808) (rs:List (BitVec 64)) (rv:V) (hr:rv=Bn rs ∨ (rv = .nils∧rs=[])) (hrl:rs.length < 9223372036854775808) (n:Nat) (hn:n < 9223372036854775808) (pf:Nat→Pr) (pv:V) (hpv:Ao9 n pf pv) (k:Int) :
 Af M 95 [v,rv,pv,.int .i64 k] [] 0 (Q3 (BD (.ptr 5 []) (.ptr 0 []) (.ptr 7 [])) (atH (at2 ok l rs n pf (Ya k)).1 (at2 ok l rs n pf (Ya k)).2.m) 14):=by
 have okS:=ok.t.ok.toOkW.toOkI.toOkV.toOkS
 have hL:=Aoo ok.t.okA okS ok.r.b ok.r.g.r n hn pf
 have hN:=NV ok.t.okA okS ok.r.b ok.r.g.r
 have e0:n=0→Aog (FK 16) pf (min n 50)=FK 16∧Aoe (BL 16) pf (min n 50)=BL 16:=fun h=>by subst h;exact ⟨rfl,rfl⟩
 have hs:=fun i (hi:i < 60)=>(Aqs ok l rs n pf i Aa).2.2.2.2
 have hst:∀ i,i < 60→S7 M (at2 ok l rs n pf i).1 (at2 ok l rs n pf (i + 1)).1:=fun i hi=>(hs i hi).hs
 have htt:∀ i,i < 60→TrD M (at2 ok l rs n pf i).2 (at2 ok l rs n pf (i + 1)).2:=fun i hi=>(hs i hi).ht
 have hT0:(at2 ok l rs n pf 0).1=Ta (Aog (FK 16) pf (min n 50)) (ldM l).f rs (min rs.length 16):=rfl
 have hU0:(at2 ok l rs n pf 0).2=SE (Aoe (BL 16) pf (min n 50)).1 (Aoe (BL 16) pf (min n 50)).2 (ldM l).f rs (min rs.length 16):=rfl
 clear hs
 generalize at2 ok l rs n pf=A at *
 generalize Aog (FK 16) pf (min n 50)=w at *
 generalize Aoe (BL 16) pf (min n 50)=R at *
 rcases hpv with rfl | ⟨rfl,h0⟩
 ·exact Aqb ok w R _ (fun H m z=>by simp only [CF,seval]) hL l v hv hl rs rv hr hrl k (fun i=>(A i).1) (fun i=>(A i).2) hT0 hU0 hst htt
 ·obtain ⟨e1,e2⟩:=e0 h0
  generalize FK 16=w0 at *
  generalize BL 16=R0 at *
  subst e1 e2
  exact Aqb ok w R _ (fun H m z=>by simp only [LY,seval]) hN l v hv hl rs rv hr hrl k (fun i=>(A i).1) (fun i=>(A i).2) hT0 hU0 hst htt
def Apt:LC:=(sr [A1 2 (.mv (.c .nils)),
 A1 3 (.mv (cI 0))]
 (.seq (sr [mt 14 0,
  A1 15 (.nilc (.t 14)),
  A1 16 (.fadr 3 (.t 15)),
  A1 17 (.load false 1 (.t 16)),
  mt 18 17,
  A2 19 18 false (.mv (.t 0)),
  A2 20 18 false (.nilc (.t 19)),
  A2 21 18 false (.fadr 2 (.t 20)),
  A2 22 18 false (.load false 1 (.t 21)),
  A2 23 18 false (.ari .geq (.t 22) (cU 8192)),
  A1 24 (.pick (.t 18) (.c (.bool true)) (.t 23))]
 (.cond (.t 24) (sr [A1 2 (.mv (.c .nils)),
  A1 3 (.mv (cI 0))]
 (.ret)) (.skip)))
 (sr [mt 25 0,
  A1 26 (.nilc (.t 25)),
  A1 27 (.fadr 2 (.t 26)),
  A1 28 (.load false 1 (.t 27)),
  A1 29 (.bsl 1 1 (.int .u64) [(.i 1 0,1,(.t 28))]),
  mt 4 29]
 (.seq (.regd [⟨0,0,mt 31 0⟩,
  ⟨1,1,A1 32 (.nilc (.t 31))⟩,
  ⟨2,3,A1 33 (.fadr 0 (.t 32))⟩,
  ⟨3,7,A1 34 (.load false 1 (.t 33))⟩,
  ⟨4,0,mt 35 0⟩,
  ⟨5,16,A1 36 (.nilc (.t 35))⟩,
  ⟨6,48,A1 37 (.fadr 2 (.t 36))⟩,
  ⟨7,112,A1 38 (.load false 1 (.t 37))⟩,
  ⟨8,255,A1 39 (.isl 1 (.t 34) (.t 38))⟩,
  ⟨9,511,A1 40 (.load false 1 (.t 39))⟩,
  ⟨10,1023,kl 41 78 [(.t 40)]⟩,
  ⟨11,2047,mt 30 41⟩,
  ⟨12,4095,A1 42 (.ext (.t 30) 0)⟩,
  ⟨13,4095,A1 43 (.ext (.t 30) 1)⟩,
  ⟨14,4095,A1 44 (.ext (.t 30) 2)⟩,
  ⟨15,8191,mt 5 42⟩,
  ⟨16,49151,mt 6 43⟩,
  ⟨17,131071,mt 7 44⟩])
 (.seq (sr [mt 45 7,
  A1 46 (.un .not (.t 45))]
 (.cond (.t 46) (sr [mt 47 4,
  mt 2 47,
  A1 3 (.mv (cI 1))]
 (.ret)) (.skip)))
 (.seq (.regd [⟨0,0,mt 48 0⟩,
  ⟨1,1,A1 49 (.nilc (.t 48))⟩,
  ⟨2,3,A1 50 (.fadr 1 (.t 49))⟩,
  ⟨3,7,A1 51 (.load false 1 (.t 50))⟩,
  ⟨4,0,mt 52 5⟩,
  ⟨5,16,A1 53 (.isl 1 (.t 52) (cI 2))⟩,
  ⟨6,48,A1 54 (.load false 1 (.t 53))⟩,
  ⟨7,127,A1 55 (.isl 1 (.t 51) (.t 54))⟩,
  ⟨8,255,A1 56 (.load false 1 (.t 55))⟩,
  ⟨9,0,mt 57 0⟩,
  ⟨10,512,A1 58 (.nilc (.t 57))⟩,
  ⟨11,1536,A1 59 (.fadr 1 (.t 58))⟩,
  ⟨12,3584,A1 60 (.load false 1 (.t 59))⟩,
  ⟨13,0,mt 61 5⟩,
  ⟨14,8192,A1 62 (.isl 1 (.t 61) (cI 3))⟩,
  ⟨15,24576,A1 63 (.load false 1 (.t 62))⟩,
  ⟨16,65024,A1 64 (.isl 1 (.t 60) (.t 63))⟩,
  ⟨17,130560,A1 65 (.load false 1 (.t 64))⟩,
  ⟨18,511,mt 8 56⟩,
  ⟨19,524287,mt 9 65⟩])
 (.seq (sr [mt 66 5,
  A1 67 (.isl 1 (.t 66) (cI 0)),
  A1 68 (.load false 1 (.t 67)),
  A1 69 (.ari .eql (.t 68) (cI 27)),
  mt 70 69,
  A2 71 70 false (.mv (.t 5)),
  A2 72 70 false (.isl 1 (.t 71) (cI 0)),
  A2 73 70 false (.load false 1 (.t 72)),
  A2 74 70 false (.ari .eql (.t 73) (cI 28)),
  A1 75 (.pick (.t 70) (.c (.bool true)) (.t 74)),
  mt 76 75,
  A2 77 76 true (.mv (.t 8)),
  A2 78 76 true (.mv (.t 6)),
  A2 79 76 true (.ari .add (.t 77) (.t 78)),
  A2 80 76 true (.ari .lss (.t 79) (cU 8192)),
  A1 81 (.pick (.t 76) (.t 80) (.c (.bool false)))]
 (.cond (.t 81) (sr [mt 82 4,
  mt 83 8,
  mt 84 6,
  A1 85 (.ari .add (.t 83) (.t 84)),
  A1 86 (.bsl 1 1 (.int .u64) [(.i 1 0,1,(.t 85))]),
  A1 87 (.app 1 8 (.t 82) (.t 86)),
  mt 4 87]
 (.seq (sr [mt 88 5,
  A1 89 (.isl 1 (.t 88) (cI 0)),
  A1 90 (.load false 1 (.t 89)),
  A1 91 (.ari .eql (.t 90) (cI 27))]
 (.cond (.t 91) (sr [mt 92 4,
  mt 2 92,
  A1 3 (.mv (cI 2))]
 (.ret)) (.skip)))
 (sr [mt 93 4,
  mt 2 93,
  A1 3 (.mv (cI 1))]
 (.ret)))) (.skip)))
 (.seq (sr [mt 94 5,
  A1 95 (.isl 1 (.t 94) (cI 0)),
  A1 96 (.load false 1 (.t 95)),
  A1 97 (.ari .neq (.t 96) (cI 34)),
  mt 98 97,
  A2 99 98 true (.mv (.t 5)),
  A2 100 98 true (.isl 1 (.t 99) (cI 0)),
  A2 101 98 true (.load false 1 (.t 100)),
  A2 102 98 true (.ari .neq (.t 101) (cI 35)),
  A1 103 (.pick (.t 98) (.t 102) (.c (.bool false)))]
 (.cond (.t 103) (sr [mt 104 4,
  mt 2 104,
  A1 3 (.mv (cI 1))]
 (.ret)) (.skip)))
 (sr [A1 10 (.mv (cU 8)),
  A1 11 (.mv (cU 4))]
 (.seq (sr [mt 105 5,
  A1 106 (.isl 1 (.t 105) (cI 0)),
  A1 107 (.load false 1 (.t 106)),
  A1 108 (.ari .eql (.t 107) (cI 35))]
 (.cond (.t 108) (.reg [A1 10 (.mv (cU 4)),
  A1 11 (.mv (cU 8))]) (.skip)))
 (.seq (sr [mt 109 8,
  mt 110 10,
  kl 111 243 [(.t 109),(.t 110)],
  A1 112 (.un .not (.t 111)),
  mt 113 112,
  A2 114 113 false (.mv (.t 9)),
  A2 115 113 false (.mv (.t 11)),
  ⟨(some 116),.call 243 [(.t 114),(.t 115)],(some (113,false))⟩,
  A2 117 113 false (.un .not (.t 116)),
  A1 118 (.pick (.t 113) (.c (.bool true)) (.t 117))]
 (.cond (.t 118) (sr [mt 119 4,
  mt 2 119,
  A1 3 (.mv (cI 1))]
 (.ret)) (.skip)))
 (.seq (sr [A1 12 (.mv (cU 0))]
 (.block 0 (.loop (.seq (sr [mt 120 12,
  mt 121 10,
  A1 122 (.ari .lss (.t 120) (.t 121))]
 (.cond (.t 122) (.skip) (.exit 0)))
 (.seq (.block 1 (.reg [mt 125 4,
  mt 126 8,
  mt 127 12,
  A1 128 (.ari .add (.t 126) (.t 127)),
  A1 129 (.bsl 1 1 (.int .u64) [(.i 1 0,1,(.t 128))]),
  A1 130 (.app 1 8 (.t 125) (.t 129)),
  mt 4 130]))
 (.reg [mt 123 12,
  A1 124 (.ari .add (.t 123) (cU 1)),
  mt 12 124]))))))
 (.seq (sr [A1 13 (.mv (cU 0))]
 (.block 2 (.loop (.seq (sr [mt 131 13,
  mt 132 11,
  A1 133 (.ari .lss (.t 131) (.t 132))]
 (.cond (.t 133) (.skip) (.exit 2)))
 (.seq (.block 3 (.reg [mt 136 4,
  mt 137 9,
  mt 138 13,
  A1 139 (.ari .add (.t 137) (.t 138)),
  A1 140 (.bsl 1 1 (.int .u64) [(.i 1 0,1,(.t 139))]),
  A1 141 (.app 1 8 (.t 136) (.t 140)),
  mt 4 141]))
 (.reg [mt 134 13,
  A1 135 (.ari .add (.t 134) (cU 1)),
  mt 13 135]))))))
 (sr [mt 142 4,
  mt 143 10,
  A1 144 (.conv .i64 (.t 143)),
  A1 145 (.ari .add (cI 1) (.t 144)),
  mt 2 142,
  mt 3 145]
 (.ret)))))))))))))))
def Apu:LF:=⟨Apt,1,0,146,[.tmp 2,.tmp 3]⟩
def Aro:LC:=(sr [A1 4 (.mv (.c (.bool false)))]
 (sr [mt 5 0,
  A1 6 (.ari .lss (.t 5) (cU 8192)),
  mt 7 6,
  A2 8 7 true (.mv (.t 0)),
  A2 9 7 true (.mv (.t 1)),
  A2 10 7 true (.ari .add (.t 8) (.t 9)),
  A2 11 7 true (.ari .leq (.t 10) (cU 8192)),
  A1 12 (.pick (.t 7) (.t 11) (.c (.bool false))),
  mt 4 12]
 (.ret)))
def Arn:LF:=⟨Aro,2,0,13,[.tmp 4]⟩
end Mv
