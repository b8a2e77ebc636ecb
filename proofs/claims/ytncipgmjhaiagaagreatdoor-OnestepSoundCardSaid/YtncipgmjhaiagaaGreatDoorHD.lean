/- A part. -/
import Derived.Test.YtncipgmjhaiagaaGreatDoorHC
set_option linter.all false
set_option maxRecDepth 20000
set_option maxHeartbeats 4000000
namespace Mv
open Go
variable {M:Seat}
def wi (a n:BitVec 64):Bool:=decide (a≤8192#64) && decide (n≤8192#64 - a)
theorem Kk (ok:OkO M) (f g:Nat→BitVec 64) (pc xt:BitVec 64) (a b:BitVec 64) (h:(wi a 8#64 && wi b 4#64)=false) :
 Af M 217 [.ptr 0 [],.ptr 1 [],.int .i64 34,W a,W b] [(0,mach f g pc false xt)] 2 (Q3 (.bool false) [(0,mach f g pc true Ap)] 2):=by
 refine Ac ok.k217 rfl fun x hx=>?_
 cases h1:wi a 8#64 with
 | false =>
   unfold wi at h1
   refine es 2000 ?_;(simp only [Li,Nc,Ga,seval])
   refine Ah (AY ok a 8#64) ?_
   (simp only [h1,LZ,seval])
   have zz:=@mach.eq_1;refine Fl [0] (Bw ok.toOkV f g pc false xt Ap) ?_
   (simp only [Ga,seval])
   have zz:=@mach.eq_1;exact Bg hx [0,1] ⟨rfl,rfl,rfl⟩
 | true =>
   rw [h1,Bool.true_and] at h
   unfold wi at h1 h
   refine es 2000 ?_;(simp only [Li,Nc,Ga,seval])
   refine Ah (AY ok a 8#64) ?_
   (simp only [h1,LZ,seval])
   refine Ah (AY ok b 4#64) ?_
   (simp only [h,LZ,seval])
   have zz:=@mach.eq_1;refine Fl [0] (Bw ok.toOkV f g pc false xt Ap) ?_
   (simp only [Ga,seval])
   have zz:=@mach.eq_1;exact Bg hx [0,1] ⟨rfl,rfl,rfl⟩
theorem Ju (ok:OkO M) (f g:Nat→BitVec 64) (pc xt:BitVec 64) (hpc:¬ 8192#64≤pc) (w:BitVec 64) (hw:f pc.toNat=w) (hop:AT w=34) (h2:w >>> 32 &&& 255#64=0#64) (h:(wi (g (pF w 48)) 8#64 && wi (g (pF w 44)) 4#64)=false) :
 Af M 70 [.ptr 0 [],.ptr 1 []] [(0,mach f g pc false xt)] 2 (Q3 .nili [(0,mach f g pc true Ap)] 2):=by
 refine Ac ok.k70 rfl fun x hx=>?_
 have hp:pc.toNat < 8192:=BM
 have a1:=Ai w 52
 have a2:=Ai w 48
 have a3:=Ai w 44
 refine es 2000 ?_;(simp only [Lcb,hpc,hw,seval])
 repeat refine sd ?_
 have zz:=@Bb.eq_1;refine Gy (Az ok.toOkV w Aa h2) ?_
 (simp only [Hi,hop,seval])
 repeat refine sd ?_
 have zz:=@mach.eq_1;refine obY [0,1] [0] (Kk ok f g pc xt _ _ h) ?_
 (simp only [Ga,seval])
 repeat refine sd ?_
 have zz:=@mach.eq_1;exact Bg hx [0,1] ⟨rfl,rfl,rfl⟩
theorem K3 (ok:OkO M) (f g:Nat→BitVec 64) (pc xt:BitVec 64) (a b:BitVec 64) (h:(wi a 4#64 && wi b 8#64)=false) :
 Af M 217 [.ptr 0 [],.ptr 1 [],.int .i64 35,W a,W b] [(0,mach f g pc false xt)] 2 (Q3 (.bool false) [(0,mach f g pc true Ap)] 2):=by
 refine Ac ok.k217 rfl fun x hx=>?_
 cases h1:wi a 4#64 with
 | false =>
   unfold wi at h1
   refine es 2000 ?_;(simp only [Li,Nc,Ga,seval])
   refine Ah (AY ok a 4#64) ?_
   (simp only [h1,LZ,seval])
   have zz:=@mach.eq_1;refine Fl [0] (Bw ok.toOkV f g pc false xt Ap) ?_
   (simp only [Ga,seval])
   have zz:=@mach.eq_1;exact Bg hx [0,1] ⟨rfl,rfl,rfl⟩
 | true =>
   rw [h1,Bool.true_and] at h
   unfold wi at h1 h
   refine es 2000 ?_;(simp only [Li,Nc,Ga,seval])
   refine Ah (AY ok a 4#64) ?_
   (simp only [h1,LZ,seval])
   refine Ah (AY ok b 8#64) ?_
   (simp only [h,LZ,seval])
   have zz:=@mach.eq_1;refine Fl [0] (Bw ok.toOkV f g pc false xt Ap) ?_
   (simp only [Ga,seval])
   have zz:=@mach.eq_1;exact Bg hx [0,1] ⟨rfl,rfl,rfl⟩
theorem Jh (ok:OkO M) (f g:Nat→BitVec 64) (pc xt:BitVec 64) (hpc:¬ 8192#64≤pc) (w:BitVec 64) (hw:f pc.toNat=w) (hop:AT w=35) (h2:w >>> 32 &&& 255#64=0#64) (h:(wi (g (pF w 48)) 4#64 && wi (g (pF w 44)) 8#64)=false) :
 Af M 70 [.ptr 0 [],.ptr 1 []] [(0,mach f g pc false xt)] 2 (Q3 .nili [(0,mach f g pc true Ap)] 2):=by
 refine Ac ok.k70 rfl fun x hx=>?_
 have hp:pc.toNat < 8192:=BM
 have a1:=Ai w 52
 have a2:=Ai w 48
 have a3:=Ai w 44
 refine es 2000 ?_;(simp only [Lcb,hpc,hw,seval])
 repeat refine sd ?_
 have zz:=@Bb.eq_1;refine Gy (Az ok.toOkV w Aa h2) ?_
 (simp only [Hi,hop,seval])
 repeat refine sd ?_
 have zz:=@mach.eq_1;refine obY [0,1] [0] (K3 ok f g pc xt _ _ h) ?_
 (simp only [Ga,seval])
 repeat refine sd ?_
 have zz:=@mach.eq_1;exact Bg hx [0,1] ⟨rfl,rfl,rfl⟩
def Aaj (m:Mc):Prop:=m.hl=false∧¬ 8192#64≤m.pc∧m.f m.pc.toNat >>> 32 &&& 255#64=0#64 ∧
 ((AT (m.f m.pc.toNat)=34∧(wi (m.g (pF (m.f m.pc.toNat) 48)) 8#64 && wi (m.g (pF (m.f m.pc.toNat) 44)) 4#64)=true) ∨ (AT (m.f m.pc.toNat)=35∧(wi (m.g (pF (m.f m.pc.toNat) 48)) 4#64 && wi (m.g (pF (m.f m.pc.toNat) 44)) 8#64)=true))
variable {M:Seat}
def HU (H H':Hp):Prop:=∀ i,Ae H' i=Ae H i∧hget H' i=hget H i
theorem I1 {i:Nat}:∀ {H:Hp},Ae H i=false→hget H i = .junk
 | [],_=>rfl
 | (j, v) :: r, h => by
   simp only [Ae,Bool.or_eq_false_iff,beq_eq_false_iff_ne,ne_eq] at h
   simp only [hget,if_neg h.1]
   exact I1 h.2
theorem HU.symm {H H':Hp} (h:HU H H'):HU H' H:=fun i=>⟨(h i).1.symm,(h i).2.symm⟩
theorem HU.swap {A B:Hp} (h:∀ i,Ae A i=true→Ae B i=false):HU (A ++ B) (B ++ A):=fun i=>by
 rw [AX,AX,Bool.or_comm]
 refine ⟨rfl,?_⟩
 cases ha:Ae A i with
 | true =>
   have hb:=h i ha
   rw [AO hb,C3 ha]
 | false =>
   rw [AO (H:=A) ha]
   cases hb:Ae B i with
   | true=>rw [C3 hb]
   | false=>rw [AO hb,I1 ha,I1 hb]
theorem Inv.same {c:Ctx} {e:Env} {H H':Hp} (hI:Inv M c e H) (h:HU H H'):Inv M c e H' where
 ev:=hI.ev
 blk id hid:=by
  rw [(h id).1] at hid
  rw [(h id).2];exact hI.blk id hid
 inj i j hi hj:=hI.inj i j ((h i).1 ▸ hi) ((h j).1 ▸ hj)
 imo:=hI.imo
 imb:=hI.imb
 rb:=hI.rb
 keep:=hI.keep
 low:=hI.low
 gs:=hI.gs
 φ:=hI.φ
 τ:=hI.τ
theorem AS.same {f:Nat} {us:List V} {H H2:Hp} {n:Nat} {K:V→Hp→Prop} (h:AS M f us H n K) (hs:HU H2 H):AS M f us H2 n K :=
 fun c e vs hI hD hk ha=>h c e vs (hI.same hs) hD hk ha
theorem AS.out {f:Nat} {us:List V} {H:Hp} {n:Nat} {K K':V→Hp→Prop} (h:AS M f us H n K) (hK:∀ v H1,K v H1→∃ H2,HU H1 H2∧K' v H2):AS M f us H n K':=by
 intro c e vs hI hD hk ha
 refine (h c e vs hI hD hk ha).mono ?_
 rintro en w' ⟨x,v,e',H',h1,h2,h3,h4,h5,h6,h7⟩
 obtain ⟨H2,k1,k2⟩:=hK v H' h7
 exact ⟨x,v,e',H2,h1,h2,h3,h4.same k1,h5,h6,k2⟩
def ow (b n:Nat) (own:Hp):Bool:=own.all fun p=>decide (17≤p.1) && decide (p.1 ≠ b) && decide (p.1 < n)
def owk (n:Nat) (own:Hp):Bool:=own.all fun p=>decide (17≤p.1) && decide (p.1 < n)
def Own (b n:Nat) (own:Hp):Prop:=∀ i,Ae own i=true→17≤i∧i ≠ b∧i < n
theorem EF {b n:Nat}:∀ {own:Hp},ow b n own=true→Own b n own
 | [],_,_,h=>by cases h
 | (j, v) :: r, ho, i, h => by
   simp only [ow,List.all_cons,Bool.and_eq_true,decide_eq_true_eq] at ho
   simp only [Oi,beq_iff_eq] at h
   rcases h with rfl | h
   ·exact ⟨ho.1.1.1,ho.1.1.2,ho.1.2⟩
   ·exact EF (own:=r) ho.2 i h
theorem HH {b n:Nat} (hb:b < 17):∀ {own:Hp},owk n own=true→Own b n own
 | [],_,_,h=>by cases h
 | (j, v) :: r, ho, i, h => by
   simp only [owk,List.all_cons,Bool.and_eq_true,decide_eq_true_eq] at ho
   simp only [Oi,beq_iff_eq] at h
   rcases h with rfl | h
   ·exact ⟨ho.1.1,by omega,ho.1.2⟩
   ·exact HH hb (own:=r) ho.2 i h
theorem FZ {i:Nat}:∀ {H:Hp},Ae H i=false→BO H i=H
 | [],_=>rfl
 | (j, v) :: r, h => by
   simp only [Ae,Bool.or_eq_false_iff,beq_eq_false_iff_ne,ne_eq] at h
   simp only [BO,if_neg h.1]
   rw [FZ h.2]
theorem Px {lo hi:Nat}:∀ {H:Hp},(∀ i,Ae H i=true→i < lo ∨ hi≤i)→Dq lo hi H
 | [],_=>trivial
 | (j,v) :: r,h=>⟨h j (by simp [Ae]),Px (H:=r) fun i hi=>h i (by simp [Ae,hi])⟩
def Cw:Option Int→V
 | none=>.nili
 | some a=>.ifc 74 (.int .i64 a)
structure Mm (σ:Type) where
 rd:σ→BitVec 64→BitVec 64 × Option Int × σ
 wr:σ→BitVec 64→BitVec 64→Option Int × σ
 pi:σ→Dg→Pr × Option Int × σ
def KO (us us':List V):Prop:=∀ (H:Hp) (m z:List Nat),m[0]?=some 0→AV H m z us us'
def Ko (v:V):Prop:=∀ m:List Nat,v.ren m=v
structure MemI (M:Seat) where
 σ:Type
 t:Nat
 ht:t=422 ∨ t=426
 k0:Nat
 kk:Nat
 hk:1≤k0∧k0≤16∧k0≤kk∧kk≤k0 + 1
 E:σ→Nat→Hp
 E0:σ→Hp
 mm:Mm σ
 Z:σ→Prop
 len:σ→Nat
 lr:∀ s a,len (mm.rd s a).2.2≤len s + 1
 lw:∀ s a v,len (mm.wr s a v).2≤len s + 1
 lp:∀ s h,len (mm.pi s h).2.2≤len s
 lz:∀ s,Z s→len s=0
 hids:∀ s b i,Ae (E s b) i=true→i < k0 ∨ i=b
 hids0:∀ s i,Ae (E0 s) i=true→i < k0
 sim0:∀ (s:σ) (H:Hp) (m z:List Nat),(∀ i,i < k0→m[i]?=some i)→(∀ i,Ae (E0 s) i=true→Ae H i=true∧hget H i=hget (E0 s) i)→Bk H m z (E0 s)
 simE:∀ (s:σ) (b b':Nat) (H:Hp) (m z:List Nat),k0≤b→(∀ i,i < k0→m[i]?=some i)→m[b']?=some b→(∀ i,Ae (E s b) i=true→Ae H i=true∧hget H i=hget (E s b) i)→Bk H m z (E s b')
 c0:∀ {f:Nat} {us us':List V} {v:V} {s s':σ} (own:Hp) {n:Nat} {K:V→Hp→Prop},Af M f us (E0 s) k0 (Q3 v (E s' k0) (k0 + 1))→KO us us'→Ko v→Own 0 n own→K v (own ++ E s' n)→AS M f us' (own ++ E0 s) n K
 ck:∀ {f:Nat} {us us':List V} {v:V} {s s':σ} {b:Nat} (own:Hp) {n:Nat} {K:V→Hp→Prop},Af M f us (E s k0) kk (Q3 v (E s' kk) (kk + 1))→KO us us'→Ko v→k0≤b→Own b n own→K v (own ++ E s' n)→AS M f us' (own ++ E s b) n K
 cu:∀ {f:Nat} {us us':List V} {v:V} {s s':σ} {b:Nat} (own:Hp) {n:Nat} {K:V→Hp→Prop},Af M f us (E s k0) kk (Q3 v (E s' k0) (kk + 1))→KO us us'→Ko v→k0≤b→Own b n own→K v (own ++ E s' b)→AS M f us' (own ++ E s b) n K
 fr:Nat
 fw:Nat
 fp:Nat
 mr:Cs M t 0 fr
 mw:Cs M t 1 fw
 mp:Cs M t 2 fp
 rr0:∀ (s:σ) (a:BitVec 64),Z s→¬ 8192#64≤a→Af M fr [.ptr 0 [],W a] (E0 s) k0 (Q3 (Ao (W (mm.rd s a).1) (Cw (mm.rd s a).2.1)) (E (mm.rd s a).2.2 k0) (k0 + 1))
 rr:∀ (s:σ) (a:BitVec 64),len s≤100→¬ 8192#64≤a→Af M fr [.ptr 0 [],W a] (E s k0) kk (Q3 (Ao (W (mm.rd s a).1) (Cw (mm.rd s a).2.1)) (E (mm.rd s a).2.2 kk) (kk + 1))
 rw:∀ (s:σ) (a v:BitVec 64),len s≤100→¬ 8192#64≤a→Af M fw [.ptr 0 [],W a,W v] (E s k0) kk (Q3 (Cw (mm.wr s a v).1) (E (mm.wr s a v).2 kk) (kk + 1))
 rp:∀ (s:σ) (h:Dg),Af M fp [.ptr 0 [],dg h] (E s k0) kk (Q3 (Ao (At (mm.pi s h).1) (Cw (mm.pi s h).2.1)) (E (mm.pi s h).2.2 k0) (kk + 1))
theorem Fz (i:Nat):∀ (A B:Hp),BO (A ++ B) i=BO A i ++ BO B i
 | [],_=>rfl
 | (j, v) :: r, B => by
   simp only [List.cons_append,BO]
   split
   ·exact Fz i r B
   ·rw [Fz i r B];rfl
theorem Ml {own E:Hp}:∀ {m0:List Nat},(∀ i ∈ m0,Ae own i=false)→A4 (own ++ E) m0=own ++ A4 E m0
 | [],_=>rfl
 | i :: r, h => by
   rw [A4,Ml (m0:=r) (fun j hj=>h j (by simp [hj])),Fz,FZ (h i Bu),A4]
theorem OG {own E:Hp} {i:Nat}:∀ {m0:List Nat},(∀ p ∈ m0,Ae own p=false)→GJ m0 (own ++ E) i=GJ m0 E i
 | [],_=>rfl
 | p :: r, h => by
   have hp:=h p Bu
   have ih:=OG (own:=own) (E:=E) (i:=i) (m0:=r) (fun q hq=>h q (by simp [hq]))
   unfold GJ at ih ⊢
   rw [List.any_cons,List.any_cons,ih,AX,hp,Bool.false_or,AO hp]
theorem Eo {own E:Hp} (hd:∀ i,Ae E i=true→Ae own i=false) (i:Nat) (h:Ae E i=true):Ae (own ++ E) i=true∧hget (own ++ E) i=hget E i:=by
 have hn:=hd i h
 rw [AX,hn,AO hn,h]
 exact ⟨rfl,rfl⟩
theorem CR {f:Nat} {us us':List V} {v:V} {own E E' H0 Hn:Hp} {n k kn:Nat} {K:V→Hp→Prop} (m m0:List Nat) (hr:Af M f us H0 k (Q3 v Hn kn))
 (h0:∀ id i,Ae H0 id=true→m[id]?=some i→i ∈ m0) (h0m:∀ i ∈ m0,i ∈ m) (hm:m.Nodup) (hk:m.length=k∧kn≤k + 16) (hall0:∀ i ∈ m0,Ae E i=true∧Ae own i=false) (hall:∀ i ∈ m,Ae E i=true ∨ GJ m0 E i=true) (hus:AV (own ++ E) m [] us us') (hH:Bk (own ++ E) m [] H0)
 (hren:AQ (Bc m n kn) Hn=E') (hrst:A4 E m0=[]) (hv:Ko v) (hd:∀ i,Ae E' i=true→Ae own i=false) (hK:K v (own ++ E')):AS M f us' (own ++ E) n K:=by
 have key:AS M f us' (own ++ E) n (fun v' H'=>v'=v∧H'=E' ++ own):=by
  refine GC hr False m m0 [] h0 h0m hm Bu hk.1 (fun i hi=>by rw [AX,(hall0 i hi).1,Bool.or_true]) (fun i hi=>?_) hus hH ?_
  ·rcases hall i hi with h | h
   ·left;rw [AX,h,Bool.or_true]
   ·exact .inr (.inr ((OG (fun p hp=>(hall0 p hp).2)).trans h))
  ·rintro v' H' k' ⟨rfl,rfl,rfl⟩
   refine ⟨⟨hk.2,fun h=>h.elim⟩,hv _,?_⟩
   rw [hren,if_neg (fun h:False=>h),List.append_nil,Ml (fun i hi=>(hall0 i hi).2),hrst,List.append_nil]
 refine AS.out key ?_
 rintro v' H' ⟨rfl,rfl⟩
 exact ⟨own ++ E',HU.swap (fun i hi=>hd i hi),hK⟩
theorem JE (e:Option Int) (m:List Nat):(Cw e).ren m=Cw e:=by cases e <;> rfl
theorem WY (e:Option Int) (H:Hp) (m z:List Nat):Aw H m z (Cw e) (Cw e):=by cases e <;> simp [Cw,Aw]
namespace MemI
variable {M:Seat} (I:MemI M)
theorem noE {s:I.σ} {b i:Nat} (h:17≤i) (hb:i ≠ b):Ae (I.E s b) i=false:=by
 cases hh:Ae (I.E s b) i with
 | false=>rfl
 | true => rcases I.hids s b i hh with h' | h'
           ·have:=I.hk;omega
           ·exact absurd h' hb
theorem no0 {s:I.σ} {i:Nat} (h:17≤i):Ae (I.E0 s) i=false:=by
 cases hh:Ae (I.E0 s) i with
 | false=>rfl
 | true=>have:=I.hids0 s i hh;have:=I.hk;omega
theorem hdelE (s:I.σ) (b i:Nat) (h:17≤i) (hb:¬ i=b):BO (I.E s b) i=I.E s b:=FZ (I.noE h hb)
theorem hdel0 (s:I.σ) (i:Nat) (h:17≤i):BO (I.E0 s) i=I.E0 s:=FZ (I.no0 h)
theorem idsE (s:I.σ) (b lo hi:Nat) (h:17≤lo) (hb:b < lo ∨ hi≤b):Dq lo hi (I.E s b)=True:=eq_true (Px fun i hi'=>by
 rcases I.hids s b i hi' with h' | h'
 ·have:=I.hk;exact .inl Aa
 ·subst h';exact hb)
theorem nil_in (v:Prop):(I.t ∈ [422,426]∧v)=v:=by
 rcases I.ht with h | h <;> rw [h] <;> simp
theorem tail {s:I.σ} {b n:Nat} {own:Hp} (ho:Own b n own) (i:Nat) (h:Ae (I.E s b) i=true):Ae (own ++ I.E s b) i=true∧hget (own ++ I.E s b) i=hget (I.E s b) i:=by
 have hn:Ae own i=false:=by
  cases hh:Ae own i with
  | false=>rfl
  | true =>
    obtain ⟨h1,h2,_⟩:=ho i hh
    rw [I.noE h1 h2] at h;cases h
 rw [AX,hn,AO hn,h]
 exact ⟨rfl,rfl⟩
theorem tail0 {s:I.σ} {b n:Nat} {own:Hp} (ho:Own b n own) (i:Nat) (h:Ae (I.E0 s) i=true):Ae (own ++ I.E0 s) i=true∧hget (own ++ I.E0 s) i=hget (I.E0 s) i:=by
 have hn:Ae own i=false:=by
  cases hh:Ae own i with
  | false=>rfl
  | true =>
    obtain ⟨h1,_⟩:=ho i hh
    rw [I.no0 h1] at h;cases h
 rw [AX,hn,AO hn,h]
 exact ⟨rfl,rfl⟩
theorem flatR (s:I.σ) (a:BitVec 64):Ko (Ao (W (I.mm.rd s a).1) (Cw (I.mm.rd s a).2.1)):=fun m=>by simp only [Ao,V.ren,W,JE]
theorem flatP (s:I.σ) (h:Dg):Ko (Ao (At (I.mm.pi s h).1) (Cw (I.mm.pi s h).2.1)):=fun m=>by simp only [Ao,V.ren,At,B,JE]
theorem X1 (a:BitVec 64):KO [.ptr 0 [],W a] [.ptr 0 [],W a]:=fun H m z h=>by simp only [AV,Bd,Aw,W,h,and_self]
theorem Amq (a b:BitVec 64):KO [.ptr 0 [],W a,W b] [.ptr 0 [],W a,W b]:=fun H m z h=>by simp only [AV,Bd,Aw,W,h,and_self]
theorem Akf {d:Dg} {v:V} (hv:∀ H m z,Bd H m z (dg d) v):KO [.ptr 0 [],dg d] [.ptr 0 [],v]:=fun H m z h=>⟨by simp only [Bd,Aw,h,and_self],hv H m z,trivial⟩
theorem dynR0 {n:Nat} {K:V→Hp→Prop} (own:Hp) {s:I.σ} (hz:I.Z s) {a:BitVec 64} {u w:V} (h:¬ 8192#64≤a) (ho:owk n own=true) (hK:K (Ao (W (I.mm.rd s a).1) (Cw (I.mm.rd s a).2.1)) (own ++ I.E (I.mm.rd s a).2.2 n)):EX M (.fcons 0 u w) [.ifc I.t (.ptr 0 []),W a] (own ++ I.E0 s) n K :=
 ⟨rfl,I.fr,I.mr,I.c0 own (I.rr0 s a hz h) (X1 a) (I.flatR s a) (HH Aa ho) hK⟩
theorem dynR {n:Nat} {K:V→Hp→Prop} (own:Hp) {s:I.σ} {b:Nat} {a:BitVec 64} {u w:V} (hL:I.len s≤100) (h:¬ 8192#64≤a) (hb:17≤b) (ho:ow b n own=true) (hK:K (Ao (W (I.mm.rd s a).1) (Cw (I.mm.rd s a).2.1)) (own ++ I.E (I.mm.rd s a).2.2 n)):EX M (.fcons 0 u w) [.ifc I.t (.ptr 0 []),W a] (own ++ I.E s b) n K :=
 ⟨rfl,I.fr,I.mr,I.ck own (I.rr s a hL h) (X1 a) (I.flatR s a) G2 (EF ho) hK⟩
theorem dynRk {n:Nat} {K:V→Hp→Prop} (own:Hp) {s:I.σ} {a:BitVec 64} {u w:V} (hL:I.len s≤100) (h:¬ 8192#64≤a) (ho:owk n own=true) (hK:K (Ao (W (I.mm.rd s a).1) (Cw (I.mm.rd s a).2.1)) (own ++ I.E (I.mm.rd s a).2.2 n)):EX M (.fcons 0 u w) [.ifc I.t (.ptr 0 []),W a] (own ++ I.E s I.k0) n K :=
 ⟨rfl,I.fr,I.mr,I.ck own (I.rr s a hL h) (X1 a) (I.flatR s a) (Nat.le_refl _) (HH G2 ho) hK⟩
theorem dynW {n:Nat} {K:V→Hp→Prop} (own:Hp) {s:I.σ} {b:Nat} {a v:BitVec 64} {u w:V} (hL:I.len s≤100) (h:¬ 8192#64≤a) (hb:17≤b) (ho:ow b n own=true) (hK:K (Cw (I.mm.wr s a v).1) (own ++ I.E (I.mm.wr s a v).2 n)):EX M (.fcons 1 u w) [.ifc I.t (.ptr 0 []),W a,W v] (own ++ I.E s b) n K :=
 ⟨rfl,I.fw,I.mw,I.ck own (I.rw s a v hL h) (Amq a v) (fun m=>JE _ m) G2 (EF ho) hK⟩
theorem dynP {n:Nat} {K:V→Hp→Prop} (own:Hp) {s:I.σ} {b:Nat} {h:Dg} {u w v:V} (hv:∀ H m z,Bd H m z (dg h) v) (hb:17≤b) (ho:ow b n own=true) (hK:K (Ao (At (I.mm.pi s h).1) (Cw (I.mm.pi s h).2.1)) (own ++ I.E (I.mm.pi s h).2.2 b)):EX M (.fcons 2 u w) [.ifc I.t (.ptr 0 []),v] (own ++ I.E s b) n K :=
 ⟨rfl,I.fp,I.mp,I.cu own (I.rp s h) (Akf hv) (I.flatP s h) G2 (EF ho) hK⟩
theorem opyR {n:Nat} {C:V→Hp→Prop} (own:Hp) {s:I.σ} {b:Nat} {a:BitVec 64} {u w:V} (hL:I.len s≤100) (h:¬ 8192#64≤a) (hb:17≤b) (ho:ow b n own=true) (hC:C (Ao (W (I.mm.rd s a).1) (Cw (I.mm.rd s a).2.1)) (own ++ I.E (I.mm.rd s a).2.2 n)):Ud M (.fcons 0 u w) [.ifc I.t (.ptr 0 []),W a] (own ++ I.E s b) n C :=
 ⟨_,_,I.dynR own hL h hb ho ⟨rfl,rfl⟩,hC⟩
theorem opyW {n:Nat} {C:V→Hp→Prop} (own:Hp) {s:I.σ} {b:Nat} {a v:BitVec 64} {u w:V} (hL:I.len s≤100) (h:¬ 8192#64≤a) (hb:17≤b) (ho:ow b n own=true) (hC:C (Cw (I.mm.wr s a v).1) (own ++ I.E (I.mm.wr s a v).2 n)):Ud M (.fcons 1 u w) [.ifc I.t (.ptr 0 []),W a,W v] (own ++ I.E s b) n C :=
 ⟨_,_,I.dynW own hL h hb ho ⟨rfl,rfl⟩,hC⟩
theorem opyP {n:Nat} {C:V→Hp→Prop} (own:Hp) {s:I.σ} {b:Nat} {h:Dg} {u w v:V} (hv:∀ H m z,Bd H m z (dg h) v) (hb:17≤b) (ho:ow b n own=true) (hC:C (Ao (At (I.mm.pi s h).1) (Cw (I.mm.pi s h).2.1)) (own ++ I.E (I.mm.pi s h).2.2 b)):Ud M (.fcons 2 u w) [.ifc I.t (.ptr 0 []),v] (own ++ I.E s b) n C :=
 ⟨_,_,I.dynP own hv hb ho ⟨rfl,rfl⟩,hC⟩
theorem rng {q b j:Nat} (h:j < q):(List.range q ++ [b])[j]?=some j:=by
 rw [List.getElem?_append_left Jk];simp [h]
theorem Anz {q b:Nat}:(List.range q ++ [b])[q]?=some b:=by
 rw [List.getElem?_append_right Bu];simp
theorem W8 {q b:Nat} (h:q≤b):(decide (List.range q ++ [b]).Nodup && ([]:List Nat).all (fun i=>!(List.range q ++ [b]).contains i) && decide ((List.range q ++ [b]).length≤q + 1) && decide (q≤q + 1) && (List.range q).all (fun j=>(List.range q ++ [b])[j]? == some j))=true:=by
 simp only [Lc6,decide_eq_true_eq,List.all_nil,beq_iff_eq]
 refine ⟨⟨⟨⟨?_,trivial⟩,by simp⟩,by omega⟩,fun j hj=>rng (List.mem_range.1 hj)⟩
 rw [List.nodup_append]
 refine ⟨List.nodup_range,by simp,?_⟩
 intro a ha c hc
 simp only [List.mem_range,List.mem_singleton] at ha hc
 omega
theorem ret {x:Ctx} {rs:List RVr} {Q:V→Hp→Nat→Prop} {A:List V} (own:Hp) {s:I.σ} {b N q:Nat} {v:V} (hq:I.k0≤q∧q≤17) (hx:x.k=q) (hb:17≤b) (ho:(own.all fun p=>decide (17≤p.1) && decide (p.1 ≠ b))=true)
 (h4:Q v (I.E s q) (q + 1)) (h1:(DS A (own ++ I.E s b) rs).1) (h2:Bd (own ++ I.E s b) (List.range q ++ [b]) [] v (DS A (own ++ I.E s b) rs).2):Aq M x rs Q A (own ++ I.E s b) N:=by
 refine Aq.mk hx (List.range q ++ [b]) [] v (I.E s q) (q + 1) (W8 Aa) h1 h2 (I.simE s b q _ _ _ Aa (fun i hi=>rng Aa) Anz (I.tail (n:=own.foldl (fun a p=>max a (p.1 + 1)) 0) fun i hi=>?_)) h4
 have:∀ (own:Hp) (a:Nat),(own.all fun p=>decide (17≤p.1) && decide (p.1 ≠ b))=true→(Ae own i=true→17≤i∧i ≠ b∧i < own.foldl (fun a p=>max a (p.1 + 1)) a)∧a≤own.foldl (fun a p=>max a (p.1 + 1)) a:=by
  intro own
  induction own with
  | nil=>intro a _;exact ⟨(fun h=>by cases h),Nat.le_refl _⟩
  | cons p r ih =>
    intro a ho
    simp only [List.all_cons,Bool.and_eq_true,decide_eq_true_eq] at ho
    obtain ⟨k1,k2⟩:=ih (max a (p.1 + 1)) ho.2
    simp only [List.foldl_cons]
    refine ⟨fun h=>?_,by omega⟩
    have h:(p.1 == i || Ae r i)=true:=h
    simp only [Bool.or_eq_true,beq_iff_eq] at h
    rcases h with h | h
    ·subst h;exact ⟨ho.1.1,ho.1.2,by omega⟩
    ·exact k1 h
 exact (this own 0 ho).1 hi
theorem ret0 {x:Ctx} {rs:List RVr} {Q:V→Hp→Nat→Prop} {A:List V} (own:Hp) {s:I.σ} {N:Nat} {v:V} (hx:x.k=I.k0) {n:Nat} (ho:owk n own=true)
 (h4:Q v (I.E0 s) (I.k0 + 1)) (h1:(DS A (own ++ I.E0 s) rs).1) (h2:Bd (own ++ I.E0 s) (List.range I.k0 ++ [n]) [] v (DS A (own ++ I.E0 s) rs).2) (hn:17≤n):Aq M x rs Q A (own ++ I.E0 s) N:=by
 have:=I.hk
 exact Aq.mk hx (List.range I.k0 ++ [n]) [] v (I.E0 s) (I.k0 + 1) (W8 Aa) h1 h2 (I.sim0 s _ _ _ (fun i hi=>rng hi) (I.tail0 (HH (b:=0) Aa ho))) h4
theorem retU {x:Ctx} {rs:List RVr} {Q:V→Hp→Nat→Prop} {A:List V} (own:Hp) {s:I.σ} {N n:Nat} {v:V} (hx:x.k=I.kk) (ho:owk n own=true)
 (h4:Q v (I.E s I.k0) (I.kk + 1)) (h1:(DS A (own ++ I.E s I.k0) rs).1) (h2:Bd (own ++ I.E s I.k0) (List.range (I.k0 + 1)) [] v (DS A (own ++ I.E s I.k0) rs).2):Aq M x rs Q A (own ++ I.E s I.k0) N:=by
 have:=I.hk
 refine Aq.mk hx (List.range (I.k0 + 1)) [] v (I.E s I.k0) (I.kk + 1) ?_ h1 h2 (I.simE s I.k0 I.k0 _ _ _ (Nat.le_refl _) (fun i hi=>?_) ?_ (I.tail (HH Aa ho))) h4
 ·simp only [Lc6,decide_eq_true_eq,List.all_nil,beq_iff_eq]
  exact ⟨⟨⟨⟨List.nodup_range,trivial⟩,by simp;omega⟩,by omega⟩,fun j hj=>by rw [List.getElem?_range (by have:=List.mem_range.1 hj;omega)]⟩
 ·rw [List.getElem?_range Aa]
 ·rw [List.getElem?_range Aa]
theorem sm (own:Hp) {s:I.σ} {b b' n:Nat} {m z:List Nat} (h1:(List.range 17).all (fun j=>m[j]? == some j)=true) (h2:m[b']?=some b) (h3:ow b n own=true) (hb:17≤b:=by decide):Bk (own ++ I.E s b) m z (I.E s b') :=
 I.simE s b b' _ m z G2 (fun i hi=>by have:=List.all_eq_true.1 h1 i (List.mem_range.2 G2);simpa using this) h2 (I.tail (EF h3))
end MemI
theorem Aj.frK {c:Ctx} {A:List V} {H:Hp} {N n:Nat} (m:List Nat) (hck:c.k≤17) {l:List (Nat × V)} {H':Hp} {N':Nat} (hlen:A.length=n)
 (hm:(decide m.Nodup && decide (m.length≤N') && decide (17≤N') && (List.range 17).all (fun j=>m[j]? == some j))=true) (hA:Lj H m [] A l) (hH:Bk H m [] H'):Aj M c A H N (Mv.fr n l) H' N':=by
 simp only [Bool.and_eq_true,decide_eq_true_eq] at hm
 refine Aj.sim m [] hm.1.1.1 Bu hm.1.1.2 Aa (fun j hj=>?_) (NE (by rw [BH,hlen]) (fun t=>?_)) hH
 ·have:=List.all_eq_true.1 hm.2 j (List.mem_range.2 Aa);simpa using this
 ·by_cases ht:t < n
  ·exact La hA t ht
  ·have:(Mv.fr n l).getD t .junk = .junk:=by rw [List.getD_eq_getElem?_getD,List.getElem?_eq_none (by rw [BH];omega)];rfl
   rw [this];trivial
theorem Bl.up {x:Ctx} {Q:List V→Hp→Nat→Prop} {k:List It} {N N':Nat} {A:List V} {H:Hp} (hN:N≤N') (h:Bl M x Q k N' A H):Bl M x Q k N A H:=by
 rintro a w kr ⟨e,h1,h2,h3,h4,h5,h6⟩ hm
 exact h a w kr ⟨e,h1,h2,h3,fun id hid=>h4 id (Nat.le_trans hN hid),Nat.le_trans h5 hN,h6⟩ hm
end Mv
