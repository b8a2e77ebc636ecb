/- A part. -/
import Derived.Test.YtlfkjfonpacelaaGreatDoorJA
set_option linter.all false
set_option maxRecDepth 20000
set_option maxHeartbeats 4000000
namespace Mv
open Go
theorem NM {M:Seat} (k71:Ar M 71 f71=true) (T:Nat→SM) (hs:(T 0).n=0) (n k:Nat) (hk:k≤n) (hn:n < 549755813888) (hst0:∀ i,i < k→J6 M (T i) (T (i + 1))) (hnh0:∀ j,j < k→¬ (T j).m.hl=true) (he:(T k).m.hl=true ∨ k=n) :
 Ae M 71 [.ptr 5 [],.ptr 0 [],.int .i64 n] (Nh (T 0)) 6 (Q3 (Ai (.int .i64 k) .nili) (QU (T k)) (QZ (T k))):=by
 refine Ab k71 rfl fun x hx=>?_;have e0:((n:Int) < 0)=False:=eq_false Aa;have hv:∀ m:Mc,m.v=mach m.f m.g m.pc m.hl m.xt:=fun _=>rfl;refine eX ?_;simp only [f71,c71,e0,IQ,hv,LZ,seval];refine Am (σ:=Nat) (fun i=>i≤k) (fun i=>fr 37 [(0,.ptr 5 []),(1,.ptr 0 []),(2,.int .i64 n),(8,.int .i64 i)]) (fun i=>QU (T i)) (fun i=>QZ (T i)) (fun i=>n - i) 0 (Nat.zero_le _) ?_ ?_
 ·have h1:QU (T 0)=Nh (T 0):=if_pos hs;have h2:QZ (T 0)=6:=if_pos hs;rw [h1,h2];refine Ak.fr [0,1,2,3,4,5] [] hx AG Al ?_ ?_
  ·simp only [LY,seval]
  ·simp only [IQ,hv,Bf,BI,seval]
 ·rintro i hi;have hfin:(i=n ∨ (T i).m.hl=true)→T k=T i∧k=i:=fun h=>by
   have:k=i:=by
    rcases h with h | h
    ·omega
    ·rcases Nat.lt_or_ge i k with h' | h'
     ·exact absurd h (hnh0 i h')
     ·omega
   subst this;exact ⟨rfl,rfl⟩
  have hik:i < n→(T i).m.hl=false→i < k∧J6 M (T i) (T (i + 1)):=fun h1 h2=>by
   have:i < k:=by
    rcases Nat.lt_or_ge i k with h' | h'
    ·exact h'
    ·obtain rfl:i=k:=Aa;rcases he with he | he
     ·rw [h2] at he;cases he
     ·omega
   exact ⟨this,hst0 i this⟩
  refine eX ?_;generalize hσ':T (i + 1) = σ' at *
  generalize hσ:T i = σ at *
  have w0:IntKind.i64.wrap ((i:Int) + 1)=((i + 1:Nat):Int):=AW;by_cases hz:σ.n=0
  ·have h1:QU σ=Nh σ:=if_pos hz;have h2:QZ σ=6:=if_pos hz;rw [h1,h2];by_cases hin:i < n
   ·have d0:((i:Int) < (n:Int))=True:=eq_true Aa;cases hhl:σ.m.hl with
    | true =>
      obtain ⟨q1,q2⟩:=hfin (.inr hhl);rw [q1,q2,h1,h2];simp only [d0,IQ,hv,hhl,LZ,seval];have zz:=Em @IQ hv hhl @Bf @Cg;exact AI hx [0,1,2,3,4,5] ⟨rfl,rfl,rfl⟩
    | false =>
      obtain ⟨hik1,hst⟩:=hik hin hhl;simp only [d0,IQ,hv,hhl,LZ,seval];rcases hst.1 with ⟨h,hw⟩ | ⟨-,h1',h⟩ | ⟨-,h1',h⟩ | ⟨h0,-,-⟩ | ⟨h0,-,-⟩
      ·have hm:Ae M 70 [.ptr 0 [],.ptr 1 []] [(0,σ.m.v)] 2 _:=h;rw [hv σ.m,hhl] at hm;have w1:σ'.w = σ.w:=by rw [hw]
       have w2:σ'.l = σ.l:=by rw [hw]
       have w3:σ'.n = σ.n:=by rw [hw]
       have w4:σ'.q = σ.q:=by rw [hw]
       have hz':σ'.n=0:=by rw [w3];exact hz
       clear hw;have zz:=AY @c7 hv;refine Z8 [5,0] [5] (hm) ?_;simp only [IQ,hv,A3,Bn,w0,seval];refine ⟨i + 1,by omega,by omega,?_⟩;rw [hσ'];have h3:QU σ'=Nh σ':=if_pos hz';have h4:QZ σ'=6:=if_pos hz';rw [h3,h4];refine Ak.fr [0,1,2,3,4,5] [] hx AG Al ?_ ?_
       ·simp only [LY,seval]
       ·simp only [w1,w2,w3,w4,IQ,hv,Fh,seval]
      ·have hm:Ae M 70 [.ptr 5 [],.ptr 0 []] _ _ _:=h;simp only [Nh,Sh,hv σ.m,hhl] at hm;have hz':σ'.n=0:=h1';have zz:=Cv @IQ hv G9;refine GY [0,1,2,3,4,5] (hm) ?_;simp only [IQ,hv,A3,Bn,w0,seval];refine ⟨i + 1,by omega,by omega,?_⟩;rw [hσ'];have h3:QU σ'=Nh σ':=if_pos hz';have h4:QZ σ'=6:=if_pos hz';rw [h3,h4];refine Ak.fr [0,1,2,3,4,5] [] hx AG Al ?_ ?_
       ·simp only [LY,seval]
       ·simp only [IQ,hv,Fh,seval]
      ·have hm:Ae M 70 [.ptr 5 [],.ptr 0 []] _ _ _:=h;simp only [Nh,Sh,hv σ.m,hhl] at hm;have zz:=Cv @IQ hv G9;refine GY [0,1,2,3,4,5] (hm) ?_;simp only [IQ,hv,A3,Bn,w0,seval];refine ⟨i + 1,by omega,by omega,?_⟩;rw [hσ'];have h3:QU σ'=Sh 6 σ':=if_neg Aa;have h4:QZ σ'=7:=if_neg Aa;rw [h3,h4];refine Ak.fr [0,1,2,3,4,5,198] [] hx AG Al ?_ ?_
       ·simp only [LY,seval]
       ·simp only [IQ,hv,Fh,seval]
      ·omega
      ·omega
   ·have d0:((i:Int) < (n:Int))=False:=eq_false Aa;obtain ⟨q1,q2⟩:=hfin (.inl Aa);rw [q1,q2,h1,h2];simp only [d0,IQ,hv,LZ,seval];have zz:=D0 @IQ hv @Bf @Cg;exact AI hx [0,1,2,3,4,5] ⟨rfl,rfl,rfl⟩
  ·have h1:QU σ=Sh 6 σ:=if_neg hz;have h2:QZ σ=7:=if_neg hz;rw [h1,h2];by_cases hin:i < n
   ·have d0:((i:Int) < (n:Int))=True:=eq_true Aa;cases hhl:σ.m.hl with
    | true =>
      obtain ⟨q1,q2⟩:=hfin (.inr hhl);rw [q1,q2,h1,h2];simp only [d0,IQ,hv,hhl,LZ,seval];have zz:=D0 @IQ hv hhl Laa;exact AI hx [0,1,2,3,4,5,6] ⟨rfl,rfl,rfl⟩
    | false =>
      obtain ⟨hik1,hst⟩:=hik hin hhl;simp only [d0,IQ,hv,hhl,LZ,seval];rcases hst.1 with ⟨h,hw⟩ | ⟨h0,-,-⟩ | ⟨h0,-,-⟩ | ⟨h0,h1',h⟩ | ⟨h0,h1',h⟩
      ·have hm:Ae M 70 [.ptr 0 [],.ptr 1 []] [(0,σ.m.v)] 2 _:=h;rw [hv σ.m,hhl] at hm;have w1:σ'.w = σ.w:=by rw [hw]
       have w2:σ'.l = σ.l:=by rw [hw]
       have w3:σ'.n = σ.n:=by rw [hw]
       have w4:σ'.q = σ.q:=by rw [hw]
       clear hw;have zz:=AY @c7 hv;refine Z8 [5,0] [5] (hm) ?_;simp only [IQ,hv,A3,Bn,w0,seval];refine ⟨i + 1,by omega,by omega,?_⟩;rw [hσ'];have h3:QU σ'=Sh 6 σ':=if_neg Aa;have h4:QZ σ'=7:=if_neg Aa;rw [h3,h4];refine Ak.fr [0,1,2,3,4,5,6] [] hx AG Al ?_ ?_
       ·simp only [LY,seval]
       ·simp only [w1,w2,w3,w4,IQ,hv,Fh,seval]
      ·exact absurd h0 hz
      ·exact absurd h0 hz
      ·have hm:Ae M 70 [.ptr 5 [],.ptr 0 []] _ _ _:=h;simp only [Nh,Sh,hv σ.m,hhl] at hm;have zz:=Cv @IQ hv G9;refine GY [0,1,2,3,4,5,6] (hm) ?_;simp only [IQ,hv,A3,Bn,w0,seval];refine ⟨i + 1,by omega,by omega,?_⟩;rw [hσ'];have h3:QU σ'=Sh 6 σ':=if_neg Aa;have h4:QZ σ'=7:=if_neg Aa;rw [h3,h4];refine Ak.fr [0,1,2,3,4,5,6] [] hx AG Al ?_ ?_
       ·simp only [LY,seval]
       ·simp only [IQ,hv,Fh,seval]
      ·have hm:Ae M 70 [.ptr 5 [],.ptr 0 []] _ _ _:=h;simp only [Nh,Sh,hv σ.m,hhl] at hm;have zz:=Cv @IQ hv G9;refine GY [0,1,2,3,4,5,6] (hm) ?_;simp only [IQ,hv,A3,Bn,w0,seval];refine ⟨i + 1,by omega,by omega,?_⟩;rw [hσ'];have h3:QU σ'=Sh 6 σ':=if_neg Aa;have h4:QZ σ'=7:=if_neg Aa;rw [h3,h4];refine Ak.fr [0,1,2,3,4,5,199] [] hx AG Al ?_ ?_
       ·simp only [LY,seval]
       ·simp only [IQ,hv,Fh,seval]
   ·have d0:((i:Int) < (n:Int))=False:=eq_false Aa;obtain ⟨q1,q2⟩:=hfin (.inl Aa);rw [q1,q2,h1,h2];simp only [d0,IQ,hv,LZ,seval];have zz:=Cv @IQ hv Laa;exact AI hx [0,1,2,3,4,5,6] ⟨rfl,rfl,rfl⟩
def Aux (r n b:BitVec 64):Prop:=r >>> 63=1#64 ∨ n≤(r <<< 1 ||| b)
instance (r n b:BitVec 64):Decidable (Aux r n b):=inferInstanceAs (Decidable (_ ∨ _))
variable {M:Seat}
def Ia (H H':Hp):Prop:=∀ i,Ag H' i=Ag H i∧hget H' i=hget H i
theorem IW {i:Nat}:∀ {H:Hp},Ag H i=false→hget H i = .junk
 | [],_=>rfl
 | (j, v) :: r, h => by
   simp only [Ag,Bool.or_eq_false_iff,beq_eq_false_iff_ne,ne_eq] at h;simp only [hget,if_neg h.1];exact IW h.2
theorem Ia.symm {H H':Hp} (h:Ia H H'):Ia H' H:=fun i=>⟨(h i).1.symm,(h i).2.symm⟩
theorem Ia.swap {A B:Hp} (h:∀ i,Ag A i=true→Ag B i=false):Ia (A ++ B) (B ++ A):=fun i=>by
 rw [Bx,Bx,Bool.or_comm];refine ⟨rfl,?_⟩;cases ha:Ag A i with
 | true =>
   have hb:=h i ha;rw [Bk hb,Dk ha]
 | false =>
   rw [Bk (H:=A) ha];cases hb:Ag B i with
   | true=>rw [Dk hb]
   | false=>rw [Bk hb,IW ha,IW hb]
theorem Inv.same {c:Ctx} {e:Env} {H H':Hp} (hI:Inv M c e H) (h:Ia H H'):Inv M c e H' where
 ev:=hI.ev
 blk id hid:=by
  rw [(h id).1] at hid;rw [(h id).2];exact hI.blk id hid
 inj i j hi hj:=hI.inj i j ((h i).1 ▸ hi) ((h j).1 ▸ hj)
 imo:=hI.imo
 imb:=hI.imb
 rb:=hI.rb
 keep:=hI.keep
 low:=hI.low
 gs:=hI.gs
 φ:=hI.φ
 τ:=hI.τ
theorem Bg.same {f:Nat} {us:List V} {H H2:Hp} {n:Nat} {K:V→Hp→Prop} (h:Bg M f us H n K) (hs:Ia H2 H):Bg M f us H2 n K :=
 fun c e vs hI hD hk ha=>h c e vs (hI.same hs) hD hk ha
theorem Bg.out {f:Nat} {us:List V} {H:Hp} {n:Nat} {K K':V→Hp→Prop} (h:Bg M f us H n K) (hK:∀ v H1,K v H1→∃ H2,Ia H1 H2∧K' v H2):Bg M f us H n K':=by
 intro c e vs hI hD hk ha;refine (h c e vs hI hD hk ha).mono ?_;rintro en w' ⟨x,v,e',H',h1,h2,h3,h4,h5,h6,h7⟩;obtain ⟨H2,k1,k2⟩:=hK v H' h7;exact ⟨x,v,e',H2,h1,h2,h3,h4.same k1,h5,h6,k2⟩
def ow (b n:Nat) (own:Hp):Bool:=own.all fun p=>decide (17≤p.1) && decide (p.1 ≠ b) && decide (p.1 < n)
def owk (n:Nat) (own:Hp):Bool:=own.all fun p=>decide (17≤p.1) && decide (p.1 < n)
def Own (b n:Nat) (own:Hp):Prop:=∀ i,Ag own i=true→17≤i∧i ≠ b∧i < n
theorem F6 {b n:Nat}:∀ {own:Hp},ow b n own=true→Own b n own
 | [],_,_,h=>by cases h
 | (j, v) :: r, ho, i, h => by
   simp only [ow,List.all_cons,Bool.and_eq_true,decide_eq_true_eq] at ho;simp only [Rr,beq_iff_eq] at h;rcases h with rfl | h
   ·exact ⟨ho.1.1.1,ho.1.1.2,ho.1.2⟩
   ·exact F6 (own:=r) ho.2 i h
theorem IM {b n:Nat} (hb:b < 17):∀ {own:Hp},owk n own=true→Own b n own
 | [],_,_,h=>by cases h
 | (j, v) :: r, ho, i, h => by
   simp only [owk,List.all_cons,Bool.and_eq_true,decide_eq_true_eq] at ho;simp only [Rr,beq_iff_eq] at h;rcases h with rfl | h
   ·exact ⟨ho.1.1,by omega,ho.1.2⟩
   ·exact IM hb (own:=r) ho.2 i h
theorem GL {i:Nat}:∀ {H:Hp},Ag H i=false→BZ H i=H
 | [],_=>rfl
 | (j, v) :: r, h => by
   simp only [Ag,Bool.or_eq_false_iff,beq_eq_false_iff_ne,ne_eq] at h;simp only [BZ,if_neg h.1];rw [GL h.2]
theorem Re {lo hi:Nat}:∀ {H:Hp},(∀ i,Ag H i=true→i < lo ∨ hi≤i)→Es lo hi H
 | [],_=>trivial
 | (j,v) :: r,h=>⟨h j (by simp [Ag]),Re (H:=r) fun i hi=>h i (by simp [Ag,hi])⟩
def Cn:Option Int→V
 | none=>.nili
 | some a=>.ifc 74 (.int .i64 a)
structure Mm (σ:Type) where
 rd:σ→BitVec 64→BitVec 64 × Option Int × σ
 wr:σ→BitVec 64→BitVec 64→Option Int × σ
 pi:σ→Dg→Pr × Option Int × σ
def Lz (us us':List V):Prop:=∀ (H:Hp) (m z:List Nat),m[0]?=some 0→Bp H m z us us'
def Mn (v:V):Prop:=∀ m:List Nat,v.ren m=v
structure MemI (M:Seat) where
 σ:Type
 t:Nat
 ht:t=422 ∨ t=426
 k0:Nat
 kk:Nat
 hk:1≤k0∧k0≤16∧k0≤kk∧kk≤k0 + 1
 E:σ→Nat→Hp
 E0:σ→Hp
 mm:Mm σ
 Z:σ→Prop
 len:σ→Nat
 lr:∀ s a,len (mm.rd s a).2.2≤len s + 1
 lw:∀ s a v,len (mm.wr s a v).2≤len s + 1
 lp:∀ s h,len (mm.pi s h).2.2≤len s
 lz:∀ s,Z s→len s=0
 hids:∀ s b i,Ag (E s b) i=true→i < k0 ∨ i=b
 hids0:∀ s i,Ag (E0 s) i=true→i < k0
 sim0:∀ (s:σ) (H:Hp) (m z:List Nat),(∀ i,i < k0→m[i]?=some i)→(∀ i,Ag (E0 s) i=true→Ag H i=true∧hget H i=hget (E0 s) i)→BC H m z (E0 s)
 simE:∀ (s:σ) (b b':Nat) (H:Hp) (m z:List Nat),k0≤b→(∀ i,i < k0→m[i]?=some i)→m[b']?=some b→(∀ i,Ag (E s b) i=true→Ag H i=true∧hget H i=hget (E s b) i)→BC H m z (E s b')
 c0:∀ {f:Nat} {us us':List V} {v:V} {s s':σ} (own:Hp) {n:Nat} {K:V→Hp→Prop},Ae M f us (E0 s) k0 (Q3 v (E s' k0) (k0 + 1))→Lz us us'→Mn v→Own 0 n own→K v (own ++ E s' n)→Bg M f us' (own ++ E0 s) n K
 ck:∀ {f:Nat} {us us':List V} {v:V} {s s':σ} {b:Nat} (own:Hp) {n:Nat} {K:V→Hp→Prop},Ae M f us (E s k0) kk (Q3 v (E s' kk) (kk + 1))→Lz us us'→Mn v→k0≤b→Own b n own→K v (own ++ E s' n)→Bg M f us' (own ++ E s b) n K
 cu:∀ {f:Nat} {us us':List V} {v:V} {s s':σ} {b:Nat} (own:Hp) {n:Nat} {K:V→Hp→Prop},Ae M f us (E s k0) kk (Q3 v (E s' k0) (kk + 1))→Lz us us'→Mn v→k0≤b→Own b n own→K v (own ++ E s' b)→Bg M f us' (own ++ E s b) n K
 fr:Nat
 fw:Nat
 fp:Nat
 mr:Dc M t 0 fr
 mw:Dc M t 1 fw
 mp:Dc M t 2 fp
 rr0:∀ (s:σ) (a:BitVec 64),Z s→¬ 8192#64≤a→Ae M fr [.ptr 0 [],W a] (E0 s) k0 (Q3 (Ai (W (mm.rd s a).1) (Cn (mm.rd s a).2.1)) (E (mm.rd s a).2.2 k0) (k0 + 1))
 rr:∀ (s:σ) (a:BitVec 64),len s≤100→¬ 8192#64≤a→Ae M fr [.ptr 0 [],W a] (E s k0) kk (Q3 (Ai (W (mm.rd s a).1) (Cn (mm.rd s a).2.1)) (E (mm.rd s a).2.2 kk) (kk + 1))
 rw:∀ (s:σ) (a v:BitVec 64),len s≤100→¬ 8192#64≤a→Ae M fw [.ptr 0 [],W a,W v] (E s k0) kk (Q3 (Cn (mm.wr s a v).1) (E (mm.wr s a v).2 kk) (kk + 1))
 rp:∀ (s:σ) (h:Dg),Ae M fp [.ptr 0 [],dg h] (E s k0) kk (Q3 (Ai (AL (mm.pi s h).1) (Cn (mm.pi s h).2.1)) (E (mm.pi s h).2.2 k0) (kk + 1))
theorem GC (i:Nat):∀ (A B:Hp),BZ (A ++ B) i=BZ A i ++ BZ B i
 | [],_=>rfl
 | (j, v) :: r, B => by
   simp only [List.cons_append,BZ];split
   ·exact GC i r B
   ·rw [GC i r B];rfl
theorem NF {own E:Hp}:∀ {m0:List Nat},(∀ i ∈ m0,Ag own i=false)→AB (own ++ E) m0=own ++ AB E m0
 | [],_=>rfl
 | i :: r, h => by
   rw [AB,NF (m0:=r) (fun j hj=>h j (by simp [hj])),GC,GL (h i B9),AB]
theorem Rg {own E:Hp} {i:Nat}:∀ {m0:List Nat},(∀ p ∈ m0,Ag own p=false)→HK m0 (own ++ E) i=HK m0 E i
 | [],_=>rfl
 | p :: r, h => by
   have hp:=h p B9;have ih:=Rg (own:=own) (E:=E) (i:=i) (m0:=r) (fun q hq=>h q (by simp [hq]));unfold HK at ih ⊢;rw [List.any_cons,List.any_cons,ih,Bx,hp,Bool.false_or,Bk hp]
theorem Ft {own E:Hp} (hd:∀ i,Ag E i=true→Ag own i=false) (i:Nat) (h:Ag E i=true):Ag (own ++ E) i=true∧hget (own ++ E) i=hget E i:=by
 have hn:=hd i h;rw [Bx,hn,Bk hn,h];exact ⟨rfl,rfl⟩
theorem D5 {f:Nat} {us us':List V} {v:V} {own E E' H0 Hn:Hp} {n k kn:Nat} {K:V→Hp→Prop} (m m0:List Nat) (hr:Ae M f us H0 k (Q3 v Hn kn))
 (h0:∀ id i,Ag H0 id=true→m[id]?=some i→i ∈ m0) (h0m:∀ i ∈ m0,i ∈ m) (hm:m.Nodup) (hk:m.length=k∧kn≤k + 16) (hall0:∀ i ∈ m0,Ag E i=true∧Ag own i=false) (hall:∀ i ∈ m,Ag E i=true ∨ HK m0 E i=true) (hus:Bp (own ++ E) m [] us us') (hH:BC (own ++ E) m [] H0)
 (hren:AU (B8 m n kn) Hn=E') (hrst:AB E m0=[]) (hv:Mn v) (hd:∀ i,Ag E' i=true→Ag own i=false) (hK:K v (own ++ E')):Bg M f us' (own ++ E) n K:=by
 have key:Bg M f us' (own ++ E) n (fun v' H'=>v'=v∧H'=E' ++ own):=by
  refine HC hr False m m0 [] h0 h0m hm B9 hk.1 (fun i hi=>by rw [Bx,(hall0 i hi).1,Bool.or_true]) (fun i hi=>?_) hus hH ?_
  ·rcases hall i hi with h | h
   ·left;rw [Bx,h,Bool.or_true]
   ·exact .inr (.inr ((Rg (fun p hp=>(hall0 p hp).2)).trans h))
  ·rintro v' H' k' ⟨rfl,rfl,rfl⟩;refine ⟨⟨hk.2,fun h=>h.elim⟩,hv _,?_⟩;rw [hren,if_neg (fun h:False=>h),List.append_nil,NF (fun i hi=>(hall0 i hi).2),hrst,List.append_nil]
 refine Bg.out key ?_;rintro v' H' ⟨rfl,rfl⟩;exact ⟨own ++ E',Ia.swap (fun i hi=>hd i hi),hK⟩
theorem Ky (e:Option Int) (m:List Nat):(Cn e).ren m=Cn e:=by cases e <;> rfl
theorem Ac4 (e:Option Int) (H:Hp) (m z:List Nat):Ay H m z (Cn e) (Cn e):=by cases e <;> simp [Cn,Ay]
namespace MemI
variable {M:Seat} (I:MemI M)
theorem noE {s:I.σ} {b i:Nat} (h:17≤i) (hb:i ≠ b):Ag (I.E s b) i=false:=by
 cases hh:Ag (I.E s b) i with
 | false=>rfl
 | true => rcases I.hids s b i hh with h' | h'
           ·have:=I.hk;omega
           ·exact absurd h' hb
theorem no0 {s:I.σ} {i:Nat} (h:17≤i):Ag (I.E0 s) i=false:=by
 cases hh:Ag (I.E0 s) i with
 | false=>rfl
 | true=>have:=I.hids0 s i hh;have:=I.hk;omega
theorem hdelE (s:I.σ) (b i:Nat) (h:17≤i) (hb:¬ i=b):BZ (I.E s b) i=I.E s b:=GL (I.noE h hb)
theorem hdel0 (s:I.σ) (i:Nat) (h:17≤i):BZ (I.E0 s) i=I.E0 s:=GL (I.no0 h)
theorem idsE (s:I.σ) (b lo hi:Nat) (h:17≤lo) (hb:b < lo ∨ hi≤b):Es lo hi (I.E s b)=True:=eq_true (Re fun i hi'=>by
 rcases I.hids s b i hi' with h' | h'
 ·have:=I.hk;exact .inl Aa
 ·subst h';exact hb)
theorem nil_in (v:Prop):(I.t ∈ [422,426]∧v)=v:=by
 rcases I.ht with h | h <;> rw [h] <;> simp
theorem tail {s:I.σ} {b n:Nat} {own:Hp} (ho:Own b n own) (i:Nat) (h:Ag (I.E s b) i=true):Ag (own ++ I.E s b) i=true∧hget (own ++ I.E s b) i=hget (I.E s b) i:=by
 have hn:Ag own i=false:=by
  cases hh:Ag own i with
  | false=>rfl
  | true =>
    obtain ⟨h1,h2,_⟩:=ho i hh;rw [I.noE h1 h2] at h;cases h
 rw [Bx,hn,Bk hn,h];exact ⟨rfl,rfl⟩
theorem tail0 {s:I.σ} {b n:Nat} {own:Hp} (ho:Own b n own) (i:Nat) (h:Ag (I.E0 s) i=true):Ag (own ++ I.E0 s) i=true∧hget (own ++ I.E0 s) i=hget (I.E0 s) i:=by
 have hn:Ag own i=false:=by
  cases hh:Ag own i with
  | false=>rfl
  | true =>
    obtain ⟨h1,_⟩:=ho i hh;rw [I.no0 h1] at h;cases h
 rw [Bx,hn,Bk hn,h];exact ⟨rfl,rfl⟩
theorem flatR (s:I.σ) (a:BitVec 64):Mn (Ai (W (I.mm.rd s a).1) (Cn (I.mm.rd s a).2.1)):=fun m=>by simp only [Ai,V.ren,W,Ky]
theorem flatP (s:I.σ) (h:Dg):Mn (Ai (AL (I.mm.pi s h).1) (Cn (I.mm.pi s h).2.1)):=fun m=>by simp only [Ai,V.ren,AL,B,Ky]
theorem YP (a:BitVec 64):Lz [.ptr 0 [],W a] [.ptr 0 [],W a]:=fun H m z h=>by simp only [Bp,Bz,Ay,W,h,and_self]
theorem Asp (a b:BitVec 64):Lz [.ptr 0 [],W a,W b] [.ptr 0 [],W a,W b]:=fun H m z h=>by simp only [Bp,Bz,Ay,W,h,and_self]
theorem Arc {d:Dg} {v:V} (hv:∀ H m z,Bz H m z (dg d) v):Lz [.ptr 0 [],dg d] [.ptr 0 [],v]:=fun H m z h=>⟨by simp only [Bz,Ay,h,and_self],hv H m z,trivial⟩
theorem dynR0 {n:Nat} {K:V→Hp→Prop} (own:Hp) {s:I.σ} (hz:I.Z s) {a:BitVec 64} {u w:V} (h:¬ 8192#64≤a) (ho:owk n own=true) (hK:K (Ai (W (I.mm.rd s a).1) (Cn (I.mm.rd s a).2.1)) (own ++ I.E (I.mm.rd s a).2.2 n)):Fl M (.fcons 0 u w) [.ifc I.t (.ptr 0 []),W a] (own ++ I.E0 s) n K :=
 ⟨rfl,I.fr,I.mr,I.c0 own (I.rr0 s a hz h) (YP a) (I.flatR s a) (IM Aa ho) hK⟩
theorem dynR {n:Nat} {K:V→Hp→Prop} (own:Hp) {s:I.σ} {b:Nat} {a:BitVec 64} {u w:V} (hL:I.len s≤100) (h:¬ 8192#64≤a) (hb:17≤b) (ho:ow b n own=true) (hK:K (Ai (W (I.mm.rd s a).1) (Cn (I.mm.rd s a).2.1)) (own ++ I.E (I.mm.rd s a).2.2 n)):Fl M (.fcons 0 u w) [.ifc I.t (.ptr 0 []),W a] (own ++ I.E s b) n K :=
 ⟨rfl,I.fr,I.mr,I.ck own (I.rr s a hL h) (YP a) (I.flatR s a) Hw (F6 ho) hK⟩
theorem dynRk {n:Nat} {K:V→Hp→Prop} (own:Hp) {s:I.σ} {a:BitVec 64} {u w:V} (hL:I.len s≤100) (h:¬ 8192#64≤a) (ho:owk n own=true) (hK:K (Ai (W (I.mm.rd s a).1) (Cn (I.mm.rd s a).2.1)) (own ++ I.E (I.mm.rd s a).2.2 n)):Fl M (.fcons 0 u w) [.ifc I.t (.ptr 0 []),W a] (own ++ I.E s I.k0) n K :=
 ⟨rfl,I.fr,I.mr,I.ck own (I.rr s a hL h) (YP a) (I.flatR s a) (Nat.le_refl _) (IM Hw ho) hK⟩
theorem dynW {n:Nat} {K:V→Hp→Prop} (own:Hp) {s:I.σ} {b:Nat} {a v:BitVec 64} {u w:V} (hL:I.len s≤100) (h:¬ 8192#64≤a) (hb:17≤b) (ho:ow b n own=true) (hK:K (Cn (I.mm.wr s a v).1) (own ++ I.E (I.mm.wr s a v).2 n)):Fl M (.fcons 1 u w) [.ifc I.t (.ptr 0 []),W a,W v] (own ++ I.E s b) n K :=
 ⟨rfl,I.fw,I.mw,I.ck own (I.rw s a v hL h) (Asp a v) (fun m=>Ky _ m) Hw (F6 ho) hK⟩
theorem dynP {n:Nat} {K:V→Hp→Prop} (own:Hp) {s:I.σ} {b:Nat} {h:Dg} {u w v:V} (hv:∀ H m z,Bz H m z (dg h) v) (hb:17≤b) (ho:ow b n own=true) (hK:K (Ai (AL (I.mm.pi s h).1) (Cn (I.mm.pi s h).2.1)) (own ++ I.E (I.mm.pi s h).2.2 b)):Fl M (.fcons 2 u w) [.ifc I.t (.ptr 0 []),v] (own ++ I.E s b) n K :=
 ⟨rfl,I.fp,I.mp,I.cu own (I.rp s h) (Arc hv) (I.flatP s h) Hw (F6 ho) hK⟩
theorem opyR {n:Nat} {C:V→Hp→Prop} (own:Hp) {s:I.σ} {b:Nat} {a:BitVec 64} {u w:V} (hL:I.len s≤100) (h:¬ 8192#64≤a) (hb:17≤b) (ho:ow b n own=true) (hC:C (Ai (W (I.mm.rd s a).1) (Cn (I.mm.rd s a).2.1)) (own ++ I.E (I.mm.rd s a).2.2 n)):VX M (.fcons 0 u w) [.ifc I.t (.ptr 0 []),W a] (own ++ I.E s b) n C :=
 ⟨_,_,I.dynR own hL h hb ho ⟨rfl,rfl⟩,hC⟩
theorem opyW {n:Nat} {C:V→Hp→Prop} (own:Hp) {s:I.σ} {b:Nat} {a v:BitVec 64} {u w:V} (hL:I.len s≤100) (h:¬ 8192#64≤a) (hb:17≤b) (ho:ow b n own=true) (hC:C (Cn (I.mm.wr s a v).1) (own ++ I.E (I.mm.wr s a v).2 n)):VX M (.fcons 1 u w) [.ifc I.t (.ptr 0 []),W a,W v] (own ++ I.E s b) n C :=
 ⟨_,_,I.dynW own hL h hb ho ⟨rfl,rfl⟩,hC⟩
theorem opyP {n:Nat} {C:V→Hp→Prop} (own:Hp) {s:I.σ} {b:Nat} {h:Dg} {u w v:V} (hv:∀ H m z,Bz H m z (dg h) v) (hb:17≤b) (ho:ow b n own=true) (hC:C (Ai (AL (I.mm.pi s h).1) (Cn (I.mm.pi s h).2.1)) (own ++ I.E (I.mm.pi s h).2.2 b)):VX M (.fcons 2 u w) [.ifc I.t (.ptr 0 []),v] (own ++ I.E s b) n C :=
 ⟨_,_,I.dynP own hv hb ho ⟨rfl,rfl⟩,hC⟩
theorem rng {q b j:Nat} (h:j < q):(List.range q ++ [b])[j]?=some j:=by
 rw [List.getElem?_append_left MY];simp [h]
theorem Avn {q b:Nat}:(List.range q ++ [b])[q]?=some b:=by
 rw [List.getElem?_append_right B9];simp
theorem ZM {q b:Nat} (h:q≤b):(decide (List.range q ++ [b]).Nodup && ([]:List Nat).all (fun i=>!(List.range q ++ [b]).contains i) && decide ((List.range q ++ [b]).length≤q + 1) && decide (q≤q + 1) && (List.range q).all (fun j=>(List.range q ++ [b])[j]? == some j))=true:=by
 simp only [Lc6,decide_eq_true_eq,List.all_nil,beq_iff_eq];refine ⟨⟨⟨⟨?_,trivial⟩,by simp⟩,by omega⟩,fun j hj=>rng (List.mem_range.1 hj)⟩;rw [List.nodup_append];refine ⟨List.nodup_range,by simp,?_⟩;intro a ha c hc;simp only [List.mem_range,List.mem_singleton] at ha hc;omega
theorem ret {x:Ctx} {rs:List RVr} {Q:V→Hp→Nat→Prop} {A:List V} (own:Hp) {s:I.σ} {b N q:Nat} {v:V} (hq:I.k0≤q∧q≤17) (hx:x.k=q) (hb:17≤b) (ho:(own.all fun p=>decide (17≤p.1) && decide (p.1 ≠ b))=true)
 (h4:Q v (I.E s q) (q + 1)) (h1:(EL A (own ++ I.E s b) rs).1) (h2:Bz (own ++ I.E s b) (List.range q ++ [b]) [] v (EL A (own ++ I.E s b) rs).2):Ap M x rs Q A (own ++ I.E s b) N:=by
 refine Ap.mk hx (List.range q ++ [b]) [] v (I.E s q) (q + 1) (ZM Aa) h1 h2 (I.simE s b q _ _ _ Aa (fun i hi=>rng Aa) Avn (I.tail (n:=own.foldl (fun a p=>max a (p.1 + 1)) 0) fun i hi=>?_)) h4;have:∀ (own:Hp) (a:Nat),(own.all fun p=>decide (17≤p.1) && decide (p.1 ≠ b))=true→(Ag own i=true→17≤i∧i ≠ b∧i < own.foldl (fun a p=>max a (p.1 + 1)) a)∧a≤own.foldl (fun a p=>max a (p.1 + 1)) a:=by
  intro own;induction own with
  | nil=>intro a _;exact ⟨(fun h=>by cases h),Nat.le_refl _⟩
  | cons p r ih =>
    intro a ho;simp only [List.all_cons,Bool.and_eq_true,decide_eq_true_eq] at ho;obtain ⟨k1,k2⟩:=ih (max a (p.1 + 1)) ho.2;simp only [List.foldl_cons];refine ⟨fun h=>?_,by omega⟩;have h:(p.1 == i || Ag r i)=true:=h;simp only [Bool.or_eq_true,beq_iff_eq] at h;rcases h with h | h
    ·subst h;exact ⟨ho.1.1,ho.1.2,by omega⟩
    ·exact k1 h
 exact (this own 0 ho).1 hi
theorem ret0 {x:Ctx} {rs:List RVr} {Q:V→Hp→Nat→Prop} {A:List V} (own:Hp) {s:I.σ} {N:Nat} {v:V} (hx:x.k=I.k0) {n:Nat} (ho:owk n own=true)
 (h4:Q v (I.E0 s) (I.k0 + 1)) (h1:(EL A (own ++ I.E0 s) rs).1) (h2:Bz (own ++ I.E0 s) (List.range I.k0 ++ [n]) [] v (EL A (own ++ I.E0 s) rs).2) (hn:17≤n):Ap M x rs Q A (own ++ I.E0 s) N:=by
 have:=I.hk;exact Ap.mk hx (List.range I.k0 ++ [n]) [] v (I.E0 s) (I.k0 + 1) (ZM Aa) h1 h2 (I.sim0 s _ _ _ (fun i hi=>rng hi) (I.tail0 (IM (b:=0) Aa ho))) h4
theorem retU {x:Ctx} {rs:List RVr} {Q:V→Hp→Nat→Prop} {A:List V} (own:Hp) {s:I.σ} {N n:Nat} {v:V} (hx:x.k=I.kk) (ho:owk n own=true)
 (h4:Q v (I.E s I.k0) (I.kk + 1)) (h1:(EL A (own ++ I.E s I.k0) rs).1) (h2:Bz (own ++ I.E s I.k0) (List.range (I.k0 + 1)) [] v (EL A (own ++ I.E s I.k0) rs).2):Ap M x rs Q A (own ++ I.E s I.k0) N:=by
 have:=I.hk;refine Ap.mk hx (List.range (I.k0 + 1)) [] v (I.E s I.k0) (I.kk + 1) ?_ h1 h2 (I.simE s I.k0 I.k0 _ _ _ (Nat.le_refl _) (fun i hi=>?_) ?_ (I.tail (IM Aa ho))) h4
 ·simp only [Lc6,decide_eq_true_eq,List.all_nil,beq_iff_eq];exact ⟨⟨⟨⟨List.nodup_range,trivial⟩,by simp;omega⟩,by omega⟩,fun j hj=>by rw [List.getElem?_range (by have:=List.mem_range.1 hj;omega)]⟩
 ·rw [List.getElem?_range Aa]
 ·rw [List.getElem?_range Aa]
theorem sm (own:Hp) {s:I.σ} {b b' n:Nat} {m z:List Nat} (h1:(List.range 17).all (fun j=>m[j]? == some j)=true) (h2:m[b']?=some b) (h3:ow b n own=true) (hb:17≤b:=by decide):BC (own ++ I.E s b) m z (I.E s b') :=
 I.simE s b b' _ m z Hw (fun i hi=>by have:=List.all_eq_true.1 h1 i (List.mem_range.2 Hw);simpa using this) h2 (I.tail (F6 h3))
end MemI
theorem Ak.frK {c:Ctx} {A:List V} {H:Hp} {N n:Nat} (m:List Nat) (hck:c.k≤17) {l:List (Nat × V)} {H':Hp} {N':Nat} (hlen:A.length=n)
 (hm:(decide m.Nodup && decide (m.length≤N') && decide (17≤N') && (List.range 17).all (fun j=>m[j]? == some j))=true) (hA:Nc H m [] A l) (hH:BC H m [] H'):Ak M c A H N (Mv.fr n l) H' N':=by
 simp only [Bool.and_eq_true,decide_eq_true_eq] at hm;refine Ak.sim m [] hm.1.1.1 B9 hm.1.1.2 Aa (fun j hj=>?_) (O4 (by rw [CH,hlen]) (fun t=>?_)) hH
 ·have:=List.all_eq_true.1 hm.2 j (List.mem_range.2 Aa);simpa using this
 ·by_cases ht:t < n
  ·exact Me hA t ht
  ·have:(Mv.fr n l).getD t .junk = .junk:=by rw [List.getD_eq_getElem?_getD,List.getElem?_eq_none (by rw [CH];omega)];rfl
   rw [this];trivial
theorem AV.up {x:Ctx} {Q:List V→Hp→Nat→Prop} {k:List It} {N N':Nat} {A:List V} {H:Hp} (hN:N≤N') (h:AV M x Q k N' A H):AV M x Q k N A H:=by
 rintro a w kr ⟨e,h1,h2,h3,h4,h5,h6⟩ hm;exact h a w kr ⟨e,h1,h2,h3,fun id hid=>h4 id (Nat.le_trans hN hid),Nat.le_trans h5 hN,h6⟩ hm
def k8:=@Cn.eq_1
def k9:=@Cn.eq_2
def c55:LC:=(sr [A1 2 (.alloc zM),mn 3] (.seq (sr [mt 4 0,A1 5 (.eq false true .ptr (.t 4) (.c .nilp))] (.cond (.t 5) (sr [A1 6 (.build zM []),A1 7 (.mkif 74 (cI 1)),sb 19 2 6,mt 3 7] .ret) .skip)) (.seq (.regd [⟨0,0,mt 8 0⟩,⟨1,1,nc 9 8⟩,⟨2,3,fa 10 8192 9⟩,⟨3,7,la 11 16 10⟩,⟨4,0,mt 12 0⟩,⟨5,16,nc 13 12⟩,⟨6,48,fa 14 8208 13⟩,⟨7,112,lb 15 1 14⟩,⟨8,0,mt 16 0⟩,⟨9,256,nc 17 16⟩,⟨10,768,fa 18 8209 17⟩,⟨11,1792,lb 19 1 18⟩,⟨12,0,mt 20 0⟩,⟨13,4096,nc 21 20⟩,⟨14,12288,fa 22 8210 21⟩,⟨15,28672,lb 23 1 22⟩,⟨16,65535,A1 24 (.build zM [(.f 0,16,(.t 11)),(.f 16,1,(.t 15)),(.f 17,1,(.t 19)),(.f 18,1,(.t 23))])⟩,⟨17,131071,sb 19 2 24⟩,⟨18,262143,mn 3⟩]) .ret)))
def f55:LF:=⟨c55,1,0,25,[.cell 2 true 19,.tmp 3]⟩
def c59:LC:=(sr [bX 1 0,
 aB 2 32] (sr [fa 7 0 1,A1 8 (.slarr 16 1 (.t 7) none none),mt 3 8] (sr [mU 4 0] (.seq (sr [fa 9 17 1,lb 10 1 9] (.cond (.t 10) (.reg [mU 4 1]) .skip)) (.seq (.regd [⟨0,0,mt 11 3⟩,⟨1,1,kl 12 208 [(.t 11)]⟩,⟨2,0,mt 13 3⟩,⟨3,4,A1 14 (.slsl 1 (.t 13) (some (cI 4)) none)⟩,⟨4,15,kl 15 208 [(.t 14)]⟩,⟨5,31,kl 16 207 [(.t 12),(.t 15)]⟩,⟨6,0,mt 17 3⟩,⟨7,64,A1 18 (.slsl 1 (.t 17) (some (cI 8)) none)⟩,⟨8,255,kl 19 208 [(.t 18)]⟩,⟨9,0,mt 20 3⟩,⟨10,512,A1 21 (.slsl 1 (.t 20) (some (cI 12)) none)⟩,⟨11,2047,kl 22 208 [(.t 21)]⟩,⟨12,4095,kl 23 207 [(.t 19),(.t 22)]⟩,⟨13,0,aB 5 32⟩,⟨14,0,aB 6 32⟩,⟨15,32767,sb 32 5 16⟩,⟨16,65535,sb 32 6 23⟩]) (.seq (.regd [⟨0,0,la 24 32 5⟩,⟨1,0,la 25 32 6⟩,⟨2,3,kl 26 207 [(.t 24),(.t 25)]⟩,⟨3,0,fa 27 16 1⟩,⟨4,8,lb 28 1 27⟩,⟨5,0,mt 29 4⟩,⟨6,0,fa 30 18 1⟩,⟨7,64,lb 31 1 30⟩,⟨8,248,A1 32 (.bsl 1 4 zU [(.i 1 0,1,(.t 28)),(.i 1 1,1,(.t 29)),(.i 1 2,1,(.t 31)),(.i 1 3,1,(cU 0))])⟩,⟨9,511,kl 33 208 [(.t 32)]⟩,⟨10,1023,kl 34 207 [(.t 26),(.t 33)]⟩,⟨11,2047,sb 32 2 34⟩]) .ret))))))
def f59:LF:=⟨c59,1,0,35,[.cell 2 true 32]⟩
def c62:LC:=(sr [bX 2 0,
 bX 3 1,
 aB 4 32] (.seq (.regd [⟨1,0,la 6 19 3⟩,⟨2,1,kl 7 59 [(.t 6)]⟩,⟨0,0,la 5 32 2⟩,⟨3,7,kl 8 207 [(.t 5),(.t 7)]⟩,⟨4,15,sb 32 4 8⟩]) .ret))
def f62:LF:=⟨c62,2,0,9,[.cell 4 true 32]⟩
def Apo:LC:=(sr [aB 2 32] (sr [aB 3 32] (.seq (sr [mI 5 0] (.block 0 (.loop (sr [aI 6 .lss 5 4] (.seq (DJ 6 0) (.seq (.block 1 (sr [mt 7 5,mt 4 7]
 (.regd [⟨0,0,mt 8 4⟩,⟨1,1,aJ 9 .mul 8 8⟩,⟨2,3,A1 10 (.slarr 32 1 (.t 3) (some (.t 9)) none)⟩,⟨3,0,mt 11 0⟩,⟨4,0,mt 12 4⟩,⟨5,24,ia 13 1 11 12⟩,⟨6,56,lb 14 1 13⟩,⟨7,127,kl 15 312 [(.t 10),(.t 14)]⟩]))) (.reg [aI 16 .add 5 1,mt 5 16]))))))) (sr [la 17 32 3,sb 32 2 17] .ret))))
def Ar0:LF:=⟨Apo,1,0,18,[.cell 2 true 32]⟩
end Mv
