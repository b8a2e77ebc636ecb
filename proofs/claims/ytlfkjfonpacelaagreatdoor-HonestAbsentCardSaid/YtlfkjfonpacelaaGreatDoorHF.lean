/- A part. -/
import Derived.Test.YtlfkjfonpacelaaGreatDoorHE
set_option linter.all false
set_option maxRecDepth 20000
set_option maxHeartbeats 4000000
namespace Mv
open Go
structure OkT (M:Seat):Prop where
 okA:OkM M
 ok:OkO M
 okP:OkP M
theorem Wu {M:Seat} (ok:OkT M) (s:SM):∃ s',s.n < 1099511627776→IC M s s'∧(s.m.hl=true→s'=s):=by
 by_cases hl:s.m.hl=true
 ·refine ⟨s,fun _=>⟨⟨.mach ?_ rfl,Nat.le_succ _⟩,fun _=>rfl⟩⟩
  obtain ⟨w,l,n,q,f,g,pc,h,xt⟩:=s
  dsimp only at hl
  subst hl
  exact DB ok.ok.toOkV f g pc xt
 ·by_cases hn:s.n < 1099511627776
  ·obtain ⟨s',h⟩:=Aaa ok.okA ok.ok ok.okP s hn
   exact ⟨s',fun _=>⟨h,fun h=>absurd h hl⟩⟩
  ·exact ⟨s,fun h=>absurd h hn⟩
noncomputable def nxt {M:Seat} (ok:OkT M) (s:SM):SM:=Classical.choose (Wu ok s)
noncomputable def SE (s:SM):Hp:=if s.n=0 then Nh s else Sh 6 s
noncomputable def RX (s:SM):Nat:=if s.n=0 then 6 else 7
theorem UL {M:Seat} (k71:Ar M 71 f71=true) (T:Nat→SM) (hs:(T 0).n=0) (n k:Nat) (hk:k≤n) (hn:n < 549755813888) (hst0:∀ i,i < k→IC M (T i) (T (i + 1))) (hnh0:∀ j,j < k→¬ (T j).m.hl=true) (he:(T k).m.hl=true ∨ k=n) :
 Ae M 71 [.ptr 5 [],.ptr 0 [],.int .i64 n] (Nh (T 0)) 6 (Q3 (Ag (.int .i64 k) .nili) (SE (T k)) (RX (T k))):=by
 refine Ab k71 rfl fun x hx=>?_
 have e0:((n:Int) < 0)=False:=eq_false Aa
 have hv:∀ m:Mc,m.v=mach m.f m.g m.pc m.hl m.xt:=fun _=>rfl
 refine es 2000 ?_;(simp only [f71,c71,e0,HK,hv,LZ,seval])
 refine An (σ:=Nat) (fun i=>i≤k) (fun i=>fr 37 [(0,.ptr 5 []),(1,.ptr 0 []),(2,.int .i64 n),(8,.int .i64 i)]) (fun i=>SE (T i)) (fun i=>RX (T i)) (fun i=>n - i) 0 (Nat.zero_le _) ?_ ?_
 ·have h1:SE (T 0)=Nh (T 0):=if_pos hs
  have h2:RX (T 0)=6:=if_pos hs
  rw [h1,h2]
  refine Ao.fr [0,1,2,3,4,5] [] hx AX Am ?_ ?_
  ·simp only [LY,seval]
  ·simp only [HK,hv,Ba,CB,seval]
 ·rintro i hi
  have hfin:(i=n ∨ (T i).m.hl=true)→T k=T i∧k=i:=fun h=>by
   have:k=i:=by
    rcases h with h | h
    ·omega
    ·rcases Nat.lt_or_ge i k with h' | h'
     ·exact absurd h (hnh0 i h')
     ·omega
   subst this;exact ⟨rfl,rfl⟩
  have hik:i < n→(T i).m.hl=false→i < k∧IC M (T i) (T (i + 1)):=fun h1 h2=>by
   have:i < k:=by
    rcases Nat.lt_or_ge i k with h' | h'
    ·exact h'
    ·obtain rfl:i=k:=Aa
     rcases he with he | he
     ·rw [h2] at he;cases he
     ·omega
   exact ⟨this,hst0 i this⟩
  refine es 2000 ?_
  generalize hσ':T (i + 1) = σ' at *
  generalize hσ:T i = σ at *
  have w0:IntKind.i64.wrap ((i:Int) + 1)=((i + 1:Nat):Int):=Br
  by_cases hz:σ.n=0
  ·have h1:SE σ=Nh σ:=if_pos hz
   have h2:RX σ=6:=if_pos hz
   rw [h1,h2]
   by_cases hin:i < n
   ·have d0:((i:Int) < (n:Int))=True:=eq_true Aa
    cases hhl:σ.m.hl with
    | true =>
      obtain ⟨q1,q2⟩:=hfin (.inr hhl)
      rw [q1,q2,h1,h2]
      (simp only [d0,HK,hv,hhl,LZ,seval])
      have zz:=GE @HK hv hhl @Ba @Cn;exact Bu hx [0,1,2,3,4,5] ⟨rfl,rfl,rfl⟩
    | false =>
      obtain ⟨hik1,hst⟩:=hik hin hhl
      (simp only [d0,HK,hv,hhl,LZ,seval])
      rcases hst.1 with ⟨h,hw⟩ | ⟨-,h1',h⟩ | ⟨-,h1',h⟩ | ⟨h0,-,-⟩ | ⟨h0,-,-⟩
      ·have hm:Ae M 70 [.ptr 0 [],.ptr 1 []] [(0,σ.m.v)] 2 _:=h
       rw [hv σ.m,hhl] at hm
       have w1:σ'.w = σ.w:=by rw [hw]
       have w2:σ'.l = σ.l:=by rw [hw]
       have w3:σ'.n = σ.n:=by rw [hw]
       have w4:σ'.q = σ.q:=by rw [hw]
       have hz':σ'.n=0:=by rw [w3];exact hz
       clear hw
       have zz:=Bo @mach.eq_1 hv;refine cbY [5,0] [5] (hm) ?_
       (simp only [HK,hv,A3,B7,w0,seval])
       refine ⟨i + 1,by omega,by omega,?_⟩
       rw [hσ']
       have h3:SE σ'=Nh σ':=if_pos hz'
       have h4:RX σ'=6:=if_pos hz'
       rw [h3,h4]
       refine Ao.fr [0,1,2,3,4,5] [] hx AX Am ?_ ?_
       ·simp only [LY,seval]
       ·simp only [w1,w2,w3,w4,HK,hv,Ez,seval]
      ·have hm:Ae M 70 [.ptr 5 [],.ptr 0 []] _ _ _:=h
       simp only [Nh,Sh,hv σ.m,hhl] at hm
       have hz':σ'.n=0:=h1'
       have zz:=CX @HK hv Gj;refine G2 [0,1,2,3,4,5] (hm) ?_
       (simp only [HK,hv,A3,B7,w0,seval])
       refine ⟨i + 1,by omega,by omega,?_⟩
       rw [hσ']
       have h3:SE σ'=Nh σ':=if_pos hz'
       have h4:RX σ'=6:=if_pos hz'
       rw [h3,h4]
       refine Ao.fr [0,1,2,3,4,5] [] hx AX Am ?_ ?_
       ·simp only [LY,seval]
       ·simp only [HK,hv,Ez,seval]
      ·have hm:Ae M 70 [.ptr 5 [],.ptr 0 []] _ _ _:=h
       simp only [Nh,Sh,hv σ.m,hhl] at hm
       have zz:=CX @HK hv Gj;refine G2 [0,1,2,3,4,5] (hm) ?_
       (simp only [HK,hv,A3,B7,w0,seval])
       refine ⟨i + 1,by omega,by omega,?_⟩
       rw [hσ']
       have h3:SE σ'=Sh 6 σ':=if_neg Aa
       have h4:RX σ'=7:=if_neg Aa
       rw [h3,h4]
       refine Ao.fr [0,1,2,3,4,5,198] [] hx AX Am ?_ ?_
       ·simp only [LY,seval]
       ·simp only [HK,hv,Ez,seval]
      ·omega
      ·omega
   ·have d0:((i:Int) < (n:Int))=False:=eq_false Aa
    obtain ⟨q1,q2⟩:=hfin (.inl Aa)
    rw [q1,q2,h1,h2]
    (simp only [d0,HK,hv,LZ,seval])
    have zz:=EH @HK hv @Ba @Cn;exact Bu hx [0,1,2,3,4,5] ⟨rfl,rfl,rfl⟩
  ·have h1:SE σ=Sh 6 σ:=if_neg hz
   have h2:RX σ=7:=if_neg hz
   rw [h1,h2]
   by_cases hin:i < n
   ·have d0:((i:Int) < (n:Int))=True:=eq_true Aa
    cases hhl:σ.m.hl with
    | true =>
      obtain ⟨q1,q2⟩:=hfin (.inr hhl)
      rw [q1,q2,h1,h2]
      (simp only [d0,HK,hv,hhl,LZ,seval])
      have zz:=EH @HK hv hhl Laa;exact Bu hx [0,1,2,3,4,5,6] ⟨rfl,rfl,rfl⟩
    | false =>
      obtain ⟨hik1,hst⟩:=hik hin hhl
      (simp only [d0,HK,hv,hhl,LZ,seval])
      rcases hst.1 with ⟨h,hw⟩ | ⟨h0,-,-⟩ | ⟨h0,-,-⟩ | ⟨h0,h1',h⟩ | ⟨h0,h1',h⟩
      ·have hm:Ae M 70 [.ptr 0 [],.ptr 1 []] [(0,σ.m.v)] 2 _:=h
       rw [hv σ.m,hhl] at hm
       have w1:σ'.w = σ.w:=by rw [hw]
       have w2:σ'.l = σ.l:=by rw [hw]
       have w3:σ'.n = σ.n:=by rw [hw]
       have w4:σ'.q = σ.q:=by rw [hw]
       clear hw
       have zz:=Bo @mach.eq_1 hv;refine cbY [5,0] [5] (hm) ?_
       (simp only [HK,hv,A3,B7,w0,seval])
       refine ⟨i + 1,by omega,by omega,?_⟩
       rw [hσ']
       have h3:SE σ'=Sh 6 σ':=if_neg Aa
       have h4:RX σ'=7:=if_neg Aa
       rw [h3,h4]
       refine Ao.fr [0,1,2,3,4,5,6] [] hx AX Am ?_ ?_
       ·simp only [LY,seval]
       ·simp only [w1,w2,w3,w4,HK,hv,Ez,seval]
      ·exact absurd h0 hz
      ·exact absurd h0 hz
      ·have hm:Ae M 70 [.ptr 5 [],.ptr 0 []] _ _ _:=h
       simp only [Nh,Sh,hv σ.m,hhl] at hm
       have zz:=CX @HK hv Gj;refine G2 [0,1,2,3,4,5,6] (hm) ?_
       (simp only [HK,hv,A3,B7,w0,seval])
       refine ⟨i + 1,by omega,by omega,?_⟩
       rw [hσ']
       have h3:SE σ'=Sh 6 σ':=if_neg Aa
       have h4:RX σ'=7:=if_neg Aa
       rw [h3,h4]
       refine Ao.fr [0,1,2,3,4,5,6] [] hx AX Am ?_ ?_
       ·simp only [LY,seval]
       ·simp only [HK,hv,Ez,seval]
      ·have hm:Ae M 70 [.ptr 5 [],.ptr 0 []] _ _ _:=h
       simp only [Nh,Sh,hv σ.m,hhl] at hm
       have zz:=CX @HK hv Gj;refine G2 [0,1,2,3,4,5,6] (hm) ?_
       (simp only [HK,hv,A3,B7,w0,seval])
       refine ⟨i + 1,by omega,by omega,?_⟩
       rw [hσ']
       have h3:SE σ'=Sh 6 σ':=if_neg Aa
       have h4:RX σ'=7:=if_neg Aa
       rw [h3,h4]
       refine Ao.fr [0,1,2,3,4,5,199] [] hx AX Am ?_ ?_
       ·simp only [LY,seval]
       ·simp only [HK,hv,Ez,seval]
   ·have d0:((i:Int) < (n:Int))=False:=eq_false Aa
    obtain ⟨q1,q2⟩:=hfin (.inl Aa)
    rw [q1,q2,h1,h2]
    (simp only [d0,HK,hv,LZ,seval])
    have zz:=CX @HK hv Laa;exact Bu hx [0,1,2,3,4,5,6] ⟨rfl,rfl,rfl⟩
def App (r n b:BitVec 64):Prop:=r >>> 63=1#64 ∨ n≤(r <<< 1 ||| b)
instance (r n b:BitVec 64):Decidable (App r n b):=inferInstanceAs (Decidable (_ ∨ _))
variable {M:Seat}
def Hk (H H':Hp):Prop:=∀ i,Af H' i=Af H i∧hget H' i=hget H i
theorem HT {i:Nat}:∀ {H:Hp},Af H i=false→hget H i = .junk
 | [],_=>rfl
 | (j, v) :: r, h => by
   simp only [Af,Bool.or_eq_false_iff,beq_eq_false_iff_ne,ne_eq] at h
   simp only [hget,if_neg h.1]
   exact HT h.2
theorem Hk.symm {H H':Hp} (h:Hk H H'):Hk H' H:=fun i=>⟨(h i).1.symm,(h i).2.symm⟩
theorem Hk.swap {A B:Hp} (h:∀ i,Af A i=true→Af B i=false):Hk (A ++ B) (B ++ A):=fun i=>by
 rw [B6,B6,Bool.or_comm]
 refine ⟨rfl,?_⟩
 cases ha:Af A i with
 | true =>
   have hb:=h i ha
   rw [Bm hb,CP ha]
 | false =>
   rw [Bm (H:=A) ha]
   cases hb:Af B i with
   | true=>rw [CP hb]
   | false=>rw [Bm hb,HT ha,HT hb]
theorem Inv.same {c:Ctx} {e:Env} {H H':Hp} (hI:Inv M c e H) (h:Hk H H'):Inv M c e H' where
 ev:=hI.ev
 blk id hid:=by
  rw [(h id).1] at hid
  rw [(h id).2];exact hI.blk id hid
 inj i j hi hj:=hI.inj i j ((h i).1 ▸ hi) ((h j).1 ▸ hj)
 imo:=hI.imo
 imb:=hI.imb
 rb:=hI.rb
 keep:=hI.keep
 low:=hI.low
 gs:=hI.gs
 φ:=hI.φ
 τ:=hI.τ
theorem AQ.same {f:Nat} {us:List V} {H H2:Hp} {n:Nat} {K:V→Hp→Prop} (h:AQ M f us H n K) (hs:Hk H2 H):AQ M f us H2 n K :=
 fun c e vs hI hD hk ha=>h c e vs (hI.same hs) hD hk ha
theorem AQ.out {f:Nat} {us:List V} {H:Hp} {n:Nat} {K K':V→Hp→Prop} (h:AQ M f us H n K) (hK:∀ v H1,K v H1→∃ H2,Hk H1 H2∧K' v H2):AQ M f us H n K':=by
 intro c e vs hI hD hk ha
 refine (h c e vs hI hD hk ha).mono ?_
 rintro en w' ⟨x,v,e',H',h1,h2,h3,h4,h5,h6,h7⟩
 obtain ⟨H2,k1,k2⟩:=hK v H' h7
 exact ⟨x,v,e',H2,h1,h2,h3,h4.same k1,h5,h6,k2⟩
def ow (b n:Nat) (own:Hp):Bool:=own.all fun p=>decide (17≤p.1) && decide (p.1 ≠ b) && decide (p.1 < n)
def owk (n:Nat) (own:Hp):Bool:=own.all fun p=>decide (17≤p.1) && decide (p.1 < n)
def Z9 (b n:Nat) (own:Hp):Prop:=∀ i,Af own i=true→17≤i∧i ≠ b∧i < n
theorem EW {b n:Nat}:∀ {own:Hp},ow b n own=true→Z9 b n own
 | [],_,_,h=>by cases h
 | (j, v) :: r, ho, i, h => by
   simp only [ow,List.all_cons,Bool.and_eq_true,decide_eq_true_eq] at ho
   simp only [R1,beq_iff_eq] at h
   rcases h with rfl | h
   ·exact ⟨ho.1.1.1,ho.1.1.2,ho.1.2⟩
   ·exact EW (own:=r) ho.2 i h
theorem H9 {b n:Nat} (hb:b < 17):∀ {own:Hp},owk n own=true→Z9 b n own
 | [],_,_,h=>by cases h
 | (j, v) :: r, ho, i, h => by
   simp only [owk,List.all_cons,Bool.and_eq_true,decide_eq_true_eq] at ho
   simp only [R1,beq_iff_eq] at h
   rcases h with rfl | h
   ·exact ⟨ho.1.1,by omega,ho.1.2⟩
   ·exact H9 hb (own:=r) ho.2 i h
theorem Gf {i:Nat}:∀ {H:Hp},Af H i=false→BL H i=H
 | [],_=>rfl
 | (j, v) :: r, h => by
   simp only [Af,Bool.or_eq_false_iff,beq_eq_false_iff_ne,ne_eq] at h
   simp only [BL,if_neg h.1]
   rw [Gf h.2]
theorem O6 {lo hi:Nat}:∀ {H:Hp},(∀ i,Af H i=true→i < lo ∨ hi≤i)→DE lo hi H
 | [],_=>trivial
 | (j,v) :: r,h=>⟨h j (by simp [Af]),O6 (H:=r) fun i hi=>h i (by simp [Af,hi])⟩
def Da:Option Int→V
 | none=>.nili
 | some a=>.ifc 74 (.int .i64 a)
structure Mm (σ:Type) where
 rd:σ→BitVec 64→BitVec 64 × Option Int × σ
 wr:σ→BitVec 64→BitVec 64→Option Int × σ
 pi:σ→Dg→Pr × Option Int × σ
def JP (us us':List V):Prop:=∀ (H:Hp) (m z:List Nat),m[0]?=some 0→AY H m z us us'
def Km (v:V):Prop:=∀ m:List Nat,v.ren m=v
structure MemI (M:Seat) where
 σ:Type
 t:Nat
 ht:t=422 ∨ t=426
 k0:Nat
 kk:Nat
 hk:1≤k0∧k0≤16∧k0≤kk∧kk≤k0 + 1
 E:σ→Nat→Hp
 E0:σ→Hp
 mm:Mm σ
 Z:σ→Prop
 len:σ→Nat
 lr:∀ s a,len (mm.rd s a).2.2≤len s + 1
 lw:∀ s a v,len (mm.wr s a v).2≤len s + 1
 lp:∀ s h,len (mm.pi s h).2.2≤len s
 lz:∀ s,Z s→len s=0
 hids:∀ s b i,Af (E s b) i=true→i < k0 ∨ i=b
 hids0:∀ s i,Af (E0 s) i=true→i < k0
 sim0:∀ (s:σ) (H:Hp) (m z:List Nat),(∀ i,i < k0→m[i]?=some i)→(∀ i,Af (E0 s) i=true→Af H i=true∧hget H i=hget (E0 s) i)→B8 H m z (E0 s)
 simE:∀ (s:σ) (b b':Nat) (H:Hp) (m z:List Nat),k0≤b→(∀ i,i < k0→m[i]?=some i)→m[b']?=some b→(∀ i,Af (E s b) i=true→Af H i=true∧hget H i=hget (E s b) i)→B8 H m z (E s b')
 c0:∀ {f:Nat} {us us':List V} {v:V} {s s':σ} (own:Hp) {n:Nat} {K:V→Hp→Prop},Ae M f us (E0 s) k0 (Q3 v (E s' k0) (k0 + 1))→JP us us'→Km v→Z9 0 n own→K v (own ++ E s' n)→AQ M f us' (own ++ E0 s) n K
 ck:∀ {f:Nat} {us us':List V} {v:V} {s s':σ} {b:Nat} (own:Hp) {n:Nat} {K:V→Hp→Prop},Ae M f us (E s k0) kk (Q3 v (E s' kk) (kk + 1))→JP us us'→Km v→k0≤b→Z9 b n own→K v (own ++ E s' n)→AQ M f us' (own ++ E s b) n K
 cu:∀ {f:Nat} {us us':List V} {v:V} {s s':σ} {b:Nat} (own:Hp) {n:Nat} {K:V→Hp→Prop},Ae M f us (E s k0) kk (Q3 v (E s' k0) (kk + 1))→JP us us'→Km v→k0≤b→Z9 b n own→K v (own ++ E s' b)→AQ M f us' (own ++ E s b) n K
 fr:Nat
 fw:Nat
 fp:Nat
 mr:CI M t 0 fr
 mw:CI M t 1 fw
 mp:CI M t 2 fp
 rr0:∀ (s:σ) (a:BitVec 64),Z s→¬ 8192#64≤a→Ae M fr [.ptr 0 [],W a] (E0 s) k0 (Q3 (Ag (W (mm.rd s a).1) (Da (mm.rd s a).2.1)) (E (mm.rd s a).2.2 k0) (k0 + 1))
 rr:∀ (s:σ) (a:BitVec 64),len s≤100→¬ 8192#64≤a→Ae M fr [.ptr 0 [],W a] (E s k0) kk (Q3 (Ag (W (mm.rd s a).1) (Da (mm.rd s a).2.1)) (E (mm.rd s a).2.2 kk) (kk + 1))
 rw:∀ (s:σ) (a v:BitVec 64),len s≤100→¬ 8192#64≤a→Ae M fw [.ptr 0 [],W a,W v] (E s k0) kk (Q3 (Da (mm.wr s a v).1) (E (mm.wr s a v).2 kk) (kk + 1))
 rp:∀ (s:σ) (h:Dg),Ae M fp [.ptr 0 [],dg h] (E s k0) kk (Q3 (Ag (AF (mm.pi s h).1) (Da (mm.pi s h).2.1)) (E (mm.pi s h).2.2 k0) (kk + 1))
theorem F2 (i:Nat):∀ (A B:Hp),BL (A ++ B) i=BL A i ++ BL B i
 | [],_=>rfl
 | (j, v) :: r, B => by
   simp only [List.cons_append,BL]
   split
   ·exact F2 i r B
   ·rw [F2 i r B];rfl
theorem LJ {own E:Hp}:∀ {m0:List Nat},(∀ i ∈ m0,Af own i=false)→A4 (own ++ E) m0=own ++ A4 E m0
 | [],_=>rfl
 | i :: r, h => by
   rw [A4,LJ (m0:=r) (fun j hj=>h j (by simp [hj])),F2,Gf (h i BD),A4]
theorem OG {own E:Hp} {i:Nat}:∀ {m0:List Nat},(∀ p ∈ m0,Af own p=false)→Hx m0 (own ++ E) i=Hx m0 E i
 | [],_=>rfl
 | p :: r, h => by
   have hp:=h p BD
   have ih:=OG (own:=own) (E:=E) (i:=i) (m0:=r) (fun q hq=>h q (by simp [hq]))
   unfold Hx at ih ⊢
   rw [List.any_cons,List.any_cons,ih,B6,hp,Bool.false_or,Bm hp]
theorem JK {own E:Hp} (hd:∀ i,Af E i=true→Af own i=false) (i:Nat) (h:Af E i=true):Af (own ++ E) i=true∧hget (own ++ E) i=hget E i:=by
 have hn:=hd i h
 rw [B6,hn,Bm hn,h]
 exact ⟨rfl,rfl⟩
theorem Jv {f:Nat} {us us':List V} {v:V} {own E E' H0 Hn:Hp} {n k kn:Nat} {K:V→Hp→Prop} (m m0:List Nat) (hr:Ae M f us H0 k (Q3 v Hn kn))
 (h0:∀ id i,Af H0 id=true→m[id]?=some i→i ∈ m0) (h0m:∀ i ∈ m0,i ∈ m) (hm:m.Nodup) (hk:m.length=k∧kn≤k + 16) (hall0:∀ i ∈ m0,Af E i=true∧Af own i=false) (hall:∀ i ∈ m,Af E i=true ∨ Hx m0 E i=true) (hus:AY (own ++ E) m [] us us') (hH:B8 (own ++ E) m [] H0)
 (hren:AM (Bk m n kn) Hn=E') (hrst:A4 E m0=[]) (hv:Km v) (hd:∀ i,Af E' i=true→Af own i=false) (hK:K v (own ++ E')):AQ M f us' (own ++ E) n K:=by
 have key:AQ M f us' (own ++ E) n (fun v' H'=>v'=v∧H'=E' ++ own):=by
  refine GC hr False m m0 [] h0 h0m hm BD hk.1 (fun i hi=>by rw [B6,(hall0 i hi).1,Bool.or_true]) (fun i hi=>?_) hus hH ?_
  ·rcases hall i hi with h | h
   ·left;rw [B6,h,Bool.or_true]
   ·exact .inr (.inr ((OG (fun p hp=>(hall0 p hp).2)).trans h))
  ·rintro v' H' k' ⟨rfl,rfl,rfl⟩
   refine ⟨⟨hk.2,fun h=>h.elim⟩,hv _,?_⟩
   rw [hren,if_neg (fun h:False=>h),List.append_nil,LJ (fun i hi=>(hall0 i hi).2),hrst,List.append_nil]
 refine AQ.out key ?_
 rintro v' H' ⟨rfl,rfl⟩
 exact ⟨own ++ E',Hk.swap (fun i hi=>hd i hi),hK⟩
theorem Ja (e:Option Int) (m:List Nat):(Da e).ren m=Da e:=by cases e <;> rfl
theorem VD (e:Option Int) (H:Hp) (m z:List Nat):At H m z (Da e) (Da e):=by cases e <;> simp [Da,At]
namespace MemI
variable {M:Seat} (I:MemI M)
theorem noE {s:I.σ} {b i:Nat} (h:17≤i) (hb:i ≠ b):Af (I.E s b) i=false:=by
 cases hh:Af (I.E s b) i with
 | false=>rfl
 | true => rcases I.hids s b i hh with h' | h'
           ·have:=I.hk;omega
           ·exact absurd h' hb
theorem no0 {s:I.σ} {i:Nat} (h:17≤i):Af (I.E0 s) i=false:=by
 cases hh:Af (I.E0 s) i with
 | false=>rfl
 | true=>have:=I.hids0 s i hh;have:=I.hk;omega
theorem hdelE (s:I.σ) (b i:Nat) (h:17≤i) (hb:¬ i=b):BL (I.E s b) i=I.E s b:=Gf (I.noE h hb)
theorem hdel0 (s:I.σ) (i:Nat) (h:17≤i):BL (I.E0 s) i=I.E0 s:=Gf (I.no0 h)
theorem idsE (s:I.σ) (b lo hi:Nat) (h:17≤lo) (hb:b < lo ∨ hi≤b):DE lo hi (I.E s b)=True:=eq_true (O6 fun i hi'=>by
 rcases I.hids s b i hi' with h' | h'
 ·have:=I.hk;exact .inl Aa
 ·subst h';exact hb)
theorem nil_in (v:Prop):(I.t ∈ [422,426]∧v)=v:=by
 rcases I.ht with h | h <;> rw [h] <;> simp
theorem tail {s:I.σ} {b n:Nat} {own:Hp} (ho:Z9 b n own) (i:Nat) (h:Af (I.E s b) i=true):Af (own ++ I.E s b) i=true∧hget (own ++ I.E s b) i=hget (I.E s b) i:=by
 have hn:Af own i=false:=by
  cases hh:Af own i with
  | false=>rfl
  | true =>
    obtain ⟨h1,h2,_⟩:=ho i hh
    rw [I.noE h1 h2] at h;cases h
 rw [B6,hn,Bm hn,h]
 exact ⟨rfl,rfl⟩
theorem tail0 {s:I.σ} {b n:Nat} {own:Hp} (ho:Z9 b n own) (i:Nat) (h:Af (I.E0 s) i=true):Af (own ++ I.E0 s) i=true∧hget (own ++ I.E0 s) i=hget (I.E0 s) i:=by
 have hn:Af own i=false:=by
  cases hh:Af own i with
  | false=>rfl
  | true =>
    obtain ⟨h1,_⟩:=ho i hh
    rw [I.no0 h1] at h;cases h
 rw [B6,hn,Bm hn,h]
 exact ⟨rfl,rfl⟩
theorem flatR (s:I.σ) (a:BitVec 64):Km (Ag (W (I.mm.rd s a).1) (Da (I.mm.rd s a).2.1)):=fun m=>by simp only [Ag,V.ren,W,Ja]
theorem flatP (s:I.σ) (h:Dg):Km (Ag (AF (I.mm.pi s h).1) (Da (I.mm.pi s h).2.1)):=fun m=>by simp only [Ag,V.ren,AF,B,Ja]
theorem VH (a:BitVec 64):JP [.ptr 0 [],W a] [.ptr 0 [],W a]:=fun H m z h=>by simp only [AY,Bl,At,W,h,and_self]
theorem Ans (a b:BitVec 64):JP [.ptr 0 [],W a,W b] [.ptr 0 [],W a,W b]:=fun H m z h=>by simp only [AY,Bl,At,W,h,and_self]
theorem Ajz {d:Dg} {v:V} (hv:∀ H m z,Bl H m z (dg d) v):JP [.ptr 0 [],dg d] [.ptr 0 [],v]:=fun H m z h=>⟨by simp only [Bl,At,h,and_self],hv H m z,trivial⟩
theorem dynR0 {n:Nat} {K:V→Hp→Prop} (own:Hp) {s:I.σ} (hz:I.Z s) {a:BitVec 64} {u w:V} (h:¬ 8192#64≤a) (ho:owk n own=true) (hK:K (Ag (W (I.mm.rd s a).1) (Da (I.mm.rd s a).2.1)) (own ++ I.E (I.mm.rd s a).2.2 n)):EF M (.fcons 0 u w) [.ifc I.t (.ptr 0 []),W a] (own ++ I.E0 s) n K :=
 ⟨rfl,I.fr,I.mr,I.c0 own (I.rr0 s a hz h) (VH a) (I.flatR s a) (H9 Aa ho) hK⟩
theorem dynR {n:Nat} {K:V→Hp→Prop} (own:Hp) {s:I.σ} {b:Nat} {a:BitVec 64} {u w:V} (hL:I.len s≤100) (h:¬ 8192#64≤a) (hb:17≤b) (ho:ow b n own=true) (hK:K (Ag (W (I.mm.rd s a).1) (Da (I.mm.rd s a).2.1)) (own ++ I.E (I.mm.rd s a).2.2 n)):EF M (.fcons 0 u w) [.ifc I.t (.ptr 0 []),W a] (own ++ I.E s b) n K :=
 ⟨rfl,I.fr,I.mr,I.ck own (I.rr s a hL h) (VH a) (I.flatR s a) Gu (EW ho) hK⟩
theorem dynRk {n:Nat} {K:V→Hp→Prop} (own:Hp) {s:I.σ} {a:BitVec 64} {u w:V} (hL:I.len s≤100) (h:¬ 8192#64≤a) (ho:owk n own=true) (hK:K (Ag (W (I.mm.rd s a).1) (Da (I.mm.rd s a).2.1)) (own ++ I.E (I.mm.rd s a).2.2 n)):EF M (.fcons 0 u w) [.ifc I.t (.ptr 0 []),W a] (own ++ I.E s I.k0) n K :=
 ⟨rfl,I.fr,I.mr,I.ck own (I.rr s a hL h) (VH a) (I.flatR s a) (Nat.le_refl _) (H9 Gu ho) hK⟩
theorem dynW {n:Nat} {K:V→Hp→Prop} (own:Hp) {s:I.σ} {b:Nat} {a v:BitVec 64} {u w:V} (hL:I.len s≤100) (h:¬ 8192#64≤a) (hb:17≤b) (ho:ow b n own=true) (hK:K (Da (I.mm.wr s a v).1) (own ++ I.E (I.mm.wr s a v).2 n)):EF M (.fcons 1 u w) [.ifc I.t (.ptr 0 []),W a,W v] (own ++ I.E s b) n K :=
 ⟨rfl,I.fw,I.mw,I.ck own (I.rw s a v hL h) (Ans a v) (fun m=>Ja _ m) Gu (EW ho) hK⟩
theorem dynP {n:Nat} {K:V→Hp→Prop} (own:Hp) {s:I.σ} {b:Nat} {h:Dg} {u w v:V} (hv:∀ H m z,Bl H m z (dg h) v) (hb:17≤b) (ho:ow b n own=true) (hK:K (Ag (AF (I.mm.pi s h).1) (Da (I.mm.pi s h).2.1)) (own ++ I.E (I.mm.pi s h).2.2 b)):EF M (.fcons 2 u w) [.ifc I.t (.ptr 0 []),v] (own ++ I.E s b) n K :=
 ⟨rfl,I.fp,I.mp,I.cu own (I.rp s h) (Ajz hv) (I.flatP s h) Gu (EW ho) hK⟩
theorem opyR {n:Nat} {C:V→Hp→Prop} (own:Hp) {s:I.σ} {b:Nat} {a:BitVec 64} {u w:V} (hL:I.len s≤100) (h:¬ 8192#64≤a) (hb:17≤b) (ho:ow b n own=true) (hC:C (Ag (W (I.mm.rd s a).1) (Da (I.mm.rd s a).2.1)) (own ++ I.E (I.mm.rd s a).2.2 n)):Uw M (.fcons 0 u w) [.ifc I.t (.ptr 0 []),W a] (own ++ I.E s b) n C :=
 ⟨_,_,I.dynR own hL h hb ho ⟨rfl,rfl⟩,hC⟩
theorem opyW {n:Nat} {C:V→Hp→Prop} (own:Hp) {s:I.σ} {b:Nat} {a v:BitVec 64} {u w:V} (hL:I.len s≤100) (h:¬ 8192#64≤a) (hb:17≤b) (ho:ow b n own=true) (hC:C (Da (I.mm.wr s a v).1) (own ++ I.E (I.mm.wr s a v).2 n)):Uw M (.fcons 1 u w) [.ifc I.t (.ptr 0 []),W a,W v] (own ++ I.E s b) n C :=
 ⟨_,_,I.dynW own hL h hb ho ⟨rfl,rfl⟩,hC⟩
theorem opyP {n:Nat} {C:V→Hp→Prop} (own:Hp) {s:I.σ} {b:Nat} {h:Dg} {u w v:V} (hv:∀ H m z,Bl H m z (dg h) v) (hb:17≤b) (ho:ow b n own=true) (hC:C (Ag (AF (I.mm.pi s h).1) (Da (I.mm.pi s h).2.1)) (own ++ I.E (I.mm.pi s h).2.2 b)):Uw M (.fcons 2 u w) [.ifc I.t (.ptr 0 []),v] (own ++ I.E s b) n C :=
 ⟨_,_,I.dynP own hv hb ho ⟨rfl,rfl⟩,hC⟩
theorem rng {q b j:Nat} (h:j < q):(List.range q ++ [b])[j]?=some j:=by
 rw [List.getElem?_append_left Lq];simp [h]
theorem Aoz {q b:Nat}:(List.range q ++ [b])[q]?=some b:=by
 rw [List.getElem?_append_right BD];simp
theorem Xp {q b:Nat} (h:q≤b):(decide (List.range q ++ [b]).Nodup && ([]:List Nat).all (fun i=>!(List.range q ++ [b]).contains i) && decide ((List.range q ++ [b]).length≤q + 1) && decide (q≤q + 1) && (List.range q).all (fun j=>(List.range q ++ [b])[j]? == some j))=true:=by
 simp only [Lc6,decide_eq_true_eq,List.all_nil,beq_iff_eq]
 refine ⟨⟨⟨⟨?_,trivial⟩,by simp⟩,by omega⟩,fun j hj=>rng (List.mem_range.1 hj)⟩
 rw [List.nodup_append]
 refine ⟨List.nodup_range,by simp,?_⟩
 intro a ha c hc
 simp only [List.mem_range,List.mem_singleton] at ha hc
 omega
theorem ret {x:Ctx} {rs:List RVr} {Q:V→Hp→Nat→Prop} {A:List V} (own:Hp) {s:I.σ} {b N q:Nat} {v:V} (hq:I.k0≤q∧q≤17) (hx:x.k=q) (hb:17≤b) (ho:(own.all fun p=>decide (17≤p.1) && decide (p.1 ≠ b))=true)
 (h4:Q v (I.E s q) (q + 1)) (h1:(Eg A (own ++ I.E s b) rs).1) (h2:Bl (own ++ I.E s b) (List.range q ++ [b]) [] v (Eg A (own ++ I.E s b) rs).2):Aq M x rs Q A (own ++ I.E s b) N:=by
 refine Aq.mk hx (List.range q ++ [b]) [] v (I.E s q) (q + 1) (Xp Aa) h1 h2 (I.simE s b q _ _ _ Aa (fun i hi=>rng Aa) Aoz (I.tail (n:=own.foldl (fun a p=>max a (p.1 + 1)) 0) fun i hi=>?_)) h4
 have:∀ (own:Hp) (a:Nat),(own.all fun p=>decide (17≤p.1) && decide (p.1 ≠ b))=true→(Af own i=true→17≤i∧i ≠ b∧i < own.foldl (fun a p=>max a (p.1 + 1)) a)∧a≤own.foldl (fun a p=>max a (p.1 + 1)) a:=by
  intro own
  induction own with
  | nil=>intro a _;exact ⟨(fun h=>by cases h),Nat.le_refl _⟩
  | cons p r ih =>
    intro a ho
    simp only [List.all_cons,Bool.and_eq_true,decide_eq_true_eq] at ho
    obtain ⟨k1,k2⟩:=ih (max a (p.1 + 1)) ho.2
    simp only [List.foldl_cons]
    refine ⟨fun h=>?_,by omega⟩
    have h:(p.1 == i || Af r i)=true:=h
    simp only [Bool.or_eq_true,beq_iff_eq] at h
    rcases h with h | h
    ·subst h;exact ⟨ho.1.1,ho.1.2,by omega⟩
    ·exact k1 h
 exact (this own 0 ho).1 hi
theorem ret0 {x:Ctx} {rs:List RVr} {Q:V→Hp→Nat→Prop} {A:List V} (own:Hp) {s:I.σ} {N:Nat} {v:V} (hx:x.k=I.k0) {n:Nat} (ho:owk n own=true)
 (h4:Q v (I.E0 s) (I.k0 + 1)) (h1:(Eg A (own ++ I.E0 s) rs).1) (h2:Bl (own ++ I.E0 s) (List.range I.k0 ++ [n]) [] v (Eg A (own ++ I.E0 s) rs).2) (hn:17≤n):Aq M x rs Q A (own ++ I.E0 s) N:=by
 have:=I.hk
 exact Aq.mk hx (List.range I.k0 ++ [n]) [] v (I.E0 s) (I.k0 + 1) (Xp Aa) h1 h2 (I.sim0 s _ _ _ (fun i hi=>rng hi) (I.tail0 (H9 (b:=0) Aa ho))) h4
theorem retU {x:Ctx} {rs:List RVr} {Q:V→Hp→Nat→Prop} {A:List V} (own:Hp) {s:I.σ} {N n:Nat} {v:V} (hx:x.k=I.kk) (ho:owk n own=true)
 (h4:Q v (I.E s I.k0) (I.kk + 1)) (h1:(Eg A (own ++ I.E s I.k0) rs).1) (h2:Bl (own ++ I.E s I.k0) (List.range (I.k0 + 1)) [] v (Eg A (own ++ I.E s I.k0) rs).2):Aq M x rs Q A (own ++ I.E s I.k0) N:=by
 have:=I.hk
 refine Aq.mk hx (List.range (I.k0 + 1)) [] v (I.E s I.k0) (I.kk + 1) ?_ h1 h2 (I.simE s I.k0 I.k0 _ _ _ (Nat.le_refl _) (fun i hi=>?_) ?_ (I.tail (H9 Aa ho))) h4
 ·simp only [Lc6,decide_eq_true_eq,List.all_nil,beq_iff_eq]
  exact ⟨⟨⟨⟨List.nodup_range,trivial⟩,by simp;omega⟩,by omega⟩,fun j hj=>by rw [List.getElem?_range (by have:=List.mem_range.1 hj;omega)]⟩
 ·rw [List.getElem?_range Aa]
 ·rw [List.getElem?_range Aa]
theorem sm (own:Hp) {s:I.σ} {b b' n:Nat} {m z:List Nat} (h1:(List.range 17).all (fun j=>m[j]? == some j)=true) (h2:m[b']?=some b) (h3:ow b n own=true) (hb:17≤b:=by decide):B8 (own ++ I.E s b) m z (I.E s b') :=
 I.simE s b b' _ m z Gu (fun i hi=>by have:=List.all_eq_true.1 h1 i (List.mem_range.2 Gu);simpa using this) h2 (I.tail (EW h3))
end MemI
theorem Ao.frK {c:Ctx} {A:List V} {H:Hp} {N n:Nat} (m:List Nat) (hck:c.k≤17) {l:List (Nat × V)} {H':Hp} {N':Nat} (hlen:A.length=n)
 (hm:(decide m.Nodup && decide (m.length≤N') && decide (17≤N') && (List.range 17).all (fun j=>m[j]? == some j))=true) (hA:Lc H m [] A l) (hH:B8 H m [] H'):Ao M c A H N (Mv.fr n l) H' N':=by
 simp only [Bool.and_eq_true,decide_eq_true_eq] at hm
 refine Ao.sim m [] hm.1.1.1 BD hm.1.1.2 Aa (fun j hj=>?_) (No (by rw [Cv,hlen]) (fun t=>?_)) hH
 ·have:=List.all_eq_true.1 hm.2 j (List.mem_range.2 Aa);simpa using this
 ·by_cases ht:t < n
  ·exact Ju hA t ht
  ·have:(Mv.fr n l).getD t .junk = .junk:=by rw [List.getD_eq_getElem?_getD,List.getElem?_eq_none (by rw [Cv];omega)];rfl
   rw [this];trivial
theorem Bt.up {x:Ctx} {Q:List V→Hp→Nat→Prop} {k:List It} {N N':Nat} {A:List V} {H:Hp} (hN:N≤N') (h:Bt M x Q k N' A H):Bt M x Q k N A H:=by
 rintro a w kr ⟨e,h1,h2,h3,h4,h5,h6⟩ hm
 exact h a w kr ⟨e,h1,h2,h3,fun id hid=>h4 id (Nat.le_trans hN hid),Nat.le_trans h5 hN,h6⟩ hm
end Mv
