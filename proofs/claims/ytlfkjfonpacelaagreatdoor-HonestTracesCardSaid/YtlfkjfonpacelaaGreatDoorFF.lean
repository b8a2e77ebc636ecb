/- A part. -/
import Derived.Test.YtlfkjfonpacelaaGreatDoorFE
set_option linter.all false
set_option maxRecDepth 20000
set_option maxHeartbeats 4000000
namespace Mv
open Go
structure OkT (M:Seat):Prop where
 okA:OkM M
 ok:OkO M
 okP:OkP M
theorem Xm {M:Seat} (ok:OkT M) (s:SM):∃ s',s.n < 1099511627776→IX M s s'∧(s.m.hl=true→s'=s):=by
 by_cases hl:s.m.hl=true
 ·refine ⟨s,fun _=>⟨⟨.mach ?_ rfl,Nat.le_succ _⟩,fun _=>rfl⟩⟩
  obtain ⟨w,l,n,q,f,g,pc,h,xt⟩:=s
  dsimp only at hl
  subst hl
  exact DK ok.ok.toOkV f g pc xt
 ·by_cases hn:s.n < 1099511627776
  ·obtain ⟨s',h⟩:=ZN ok.okA ok.ok ok.okP s hn
   exact ⟨s',fun _=>⟨h,fun h=>absurd h hl⟩⟩
  ·exact ⟨s,fun h=>absurd h hn⟩
noncomputable def nxt {M:Seat} (ok:OkT M) (s:SM):SM:=Classical.choose (Xm ok s)
noncomputable def Pw (s:SM):Hp:=if s.n=0 then Nh s else Sh 6 s
noncomputable def Qh (s:SM):Nat:=if s.n=0 then 6 else 7
theorem Mj {M:Seat} (k71:Av M 71 f71=true) (T:Nat→SM) (hs:(T 0).n=0) (n k:Nat) (hk:k≤n) (hn:n < 549755813888) (hst0:∀ i,i < k→IX M (T i) (T (i + 1))) (hnh0:∀ j,j < k→¬ (T j).m.hl=true) (he:(T k).m.hl=true ∨ k=n) :
 Af M 71 [.ptr 5 [],.ptr 0 [],.int .i64 n] (Nh (T 0)) 6 (Q3 (Ah (.int .i64 k) .nili) (Pw (T k)) (Qh (T k))):=by
 refine Ab k71 rfl fun x hx=>?_
 have e0:((n:Int) < 0)=False:=eq_false Aa
 have hv:∀ m:Mc,m.v=mach m.f m.g m.pc m.hl m.xt:=fun _=>rfl
 refine es 2000 ?_;(simp only [f71,c71,e0,HV,hv,LZ,seval])
 refine An (σ:=Nat) (fun i=>i≤k) (fun i=>fr 37 [(0,.ptr 5 []),(1,.ptr 0 []),(2,.int .i64 n),(8,.int .i64 i)]) (fun i=>Pw (T i)) (fun i=>Qh (T i)) (fun i=>n - i) 0 (Nat.zero_le _) ?_ ?_
 ·have h1:Pw (T 0)=Nh (T 0):=if_pos hs
  have h2:Qh (T 0)=6:=if_pos hs
  rw [h1,h2]
  refine Ak.fr [0,1,2,3,4,5] [] hx AQ Aj ?_ ?_
  ·simp only [LY,seval]
  ·simp only [HV,hv,Ay,Cm,seval]
 ·rintro i hi
  have hfin:(i=n ∨ (T i).m.hl=true)→T k=T i∧k=i:=fun h=>by
   have:k=i:=by
    rcases h with h | h
    ·omega
    ·rcases Nat.lt_or_ge i k with h' | h'
     ·exact absurd h (hnh0 i h')
     ·omega
   subst this;exact ⟨rfl,rfl⟩
  have hik:i < n→(T i).m.hl=false→i < k∧IX M (T i) (T (i + 1)):=fun h1 h2=>by
   have:i < k:=by
    rcases Nat.lt_or_ge i k with h' | h'
    ·exact h'
    ·obtain rfl:i=k:=Aa
     rcases he with he | he
     ·rw [h2] at he;cases he
     ·omega
   exact ⟨this,hst0 i this⟩
  refine es 2000 ?_
  generalize hσ':T (i + 1) = σ' at *
  generalize hσ:T i = σ at *
  have w0:IntKind.i64.wrap ((i:Int) + 1)=((i + 1:Nat):Int):=Bw
  by_cases hz:σ.n=0
  ·have h1:Pw σ=Nh σ:=if_pos hz
   have h2:Qh σ=6:=if_pos hz
   rw [h1,h2]
   by_cases hin:i < n
   ·have d0:((i:Int) < (n:Int))=True:=eq_true Aa
    cases hhl:σ.m.hl with
    | true =>
      obtain ⟨q1,q2⟩:=hfin (.inr hhl)
      rw [q1,q2,h1,h2]
      (simp only [d0,HV,hv,hhl,LZ,seval])
      have zz:=N8 @HV hv hhl @Ay @Ce;exact Bz hx [0,1,2,3,4,5] ⟨rfl,rfl,rfl⟩
    | false =>
      obtain ⟨hik1,hst⟩:=hik hin hhl
      (simp only [d0,HV,hv,hhl,LZ,seval])
      rcases hst.1 with ⟨h,hw⟩ | ⟨-,h1',h⟩ | ⟨-,h1',h⟩ | ⟨h0,-,-⟩ | ⟨h0,-,-⟩
      ·have hm:Af M 70 [.ptr 0 [],.ptr 1 []] [(0,σ.m.v)] 2 _:=h
       rw [hv σ.m,hhl] at hm
       have w1:σ'.w = σ.w:=by rw [hw]
       have w2:σ'.l = σ.l:=by rw [hw]
       have w3:σ'.n = σ.n:=by rw [hw]
       have w4:σ'.q = σ.q:=by rw [hw]
       have hz':σ'.n=0:=by rw [w3];exact hz
       clear hw
       have zz:=Bc @mach.eq_1 hv;refine Zg [5,0] [5] (hm) ?_
       (simp only [HV,hv,Am,BA,w0,seval])
       refine ⟨i + 1,by omega,by omega,?_⟩
       rw [hσ']
       have h3:Pw σ'=Nh σ':=if_pos hz'
       have h4:Qh σ'=6:=if_pos hz'
       rw [h3,h4]
       refine Ak.fr [0,1,2,3,4,5] [] hx AQ Aj ?_ ?_
       ·simp only [LY,seval]
       ·simp only [w1,w2,w3,w4,HV,hv,DN,seval]
      ·have hm:Af M 70 [.ptr 5 [],.ptr 0 []] _ _ _:=h
       simp only [Nh,Sh,hv σ.m,hhl] at hm
       have hz':σ'.n=0:=h1'
       have zz:=CC @HV hv EZ;refine FA [0,1,2,3,4,5] (hm) ?_
       (simp only [HV,hv,Am,BA,w0,seval])
       refine ⟨i + 1,by omega,by omega,?_⟩
       rw [hσ']
       have h3:Pw σ'=Nh σ':=if_pos hz'
       have h4:Qh σ'=6:=if_pos hz'
       rw [h3,h4]
       refine Ak.fr [0,1,2,3,4,5] [] hx AQ Aj ?_ ?_
       ·simp only [LY,seval]
       ·simp only [HV,hv,DN,seval]
      ·have hm:Af M 70 [.ptr 5 [],.ptr 0 []] _ _ _:=h
       simp only [Nh,Sh,hv σ.m,hhl] at hm
       have zz:=CC @HV hv EZ;refine FA [0,1,2,3,4,5] (hm) ?_
       (simp only [HV,hv,Am,BA,w0,seval])
       refine ⟨i + 1,by omega,by omega,?_⟩
       rw [hσ']
       have h3:Pw σ'=Sh 6 σ':=if_neg Aa
       have h4:Qh σ'=7:=if_neg Aa
       rw [h3,h4]
       refine Ak.fr [0,1,2,3,4,5,198] [] hx AQ Aj ?_ ?_
       ·simp only [LY,seval]
       ·simp only [HV,hv,DN,seval]
      ·omega
      ·omega
   ·have d0:((i:Int) < (n:Int))=False:=eq_false Aa
    obtain ⟨q1,q2⟩:=hfin (.inl Aa)
    rw [q1,q2,h1,h2]
    (simp only [d0,HV,hv,LZ,seval])
    have zz:=F5 @HV hv @Ay @Ce;exact Bz hx [0,1,2,3,4,5] ⟨rfl,rfl,rfl⟩
  ·have h1:Pw σ=Sh 6 σ:=if_neg hz
   have h2:Qh σ=7:=if_neg hz
   rw [h1,h2]
   by_cases hin:i < n
   ·have d0:((i:Int) < (n:Int))=True:=eq_true Aa
    cases hhl:σ.m.hl with
    | true =>
      obtain ⟨q1,q2⟩:=hfin (.inr hhl)
      rw [q1,q2,h1,h2]
      (simp only [d0,HV,hv,hhl,LZ,seval])
      have zz:=F5 @HV hv hhl Laa;exact Bz hx [0,1,2,3,4,5,6] ⟨rfl,rfl,rfl⟩
    | false =>
      obtain ⟨hik1,hst⟩:=hik hin hhl
      (simp only [d0,HV,hv,hhl,LZ,seval])
      rcases hst.1 with ⟨h,hw⟩ | ⟨h0,-,-⟩ | ⟨h0,-,-⟩ | ⟨h0,h1',h⟩ | ⟨h0,h1',h⟩
      ·have hm:Af M 70 [.ptr 0 [],.ptr 1 []] [(0,σ.m.v)] 2 _:=h
       rw [hv σ.m,hhl] at hm
       have w1:σ'.w = σ.w:=by rw [hw]
       have w2:σ'.l = σ.l:=by rw [hw]
       have w3:σ'.n = σ.n:=by rw [hw]
       have w4:σ'.q = σ.q:=by rw [hw]
       clear hw
       have zz:=Bc @mach.eq_1 hv;refine Zg [5,0] [5] (hm) ?_
       (simp only [HV,hv,Am,BA,w0,seval])
       refine ⟨i + 1,by omega,by omega,?_⟩
       rw [hσ']
       have h3:Pw σ'=Sh 6 σ':=if_neg Aa
       have h4:Qh σ'=7:=if_neg Aa
       rw [h3,h4]
       refine Ak.fr [0,1,2,3,4,5,6] [] hx AQ Aj ?_ ?_
       ·simp only [LY,seval]
       ·simp only [w1,w2,w3,w4,HV,hv,DN,seval]
      ·exact absurd h0 hz
      ·exact absurd h0 hz
      ·have hm:Af M 70 [.ptr 5 [],.ptr 0 []] _ _ _:=h
       simp only [Nh,Sh,hv σ.m,hhl] at hm
       have zz:=CC @HV hv EZ;refine FA [0,1,2,3,4,5,6] (hm) ?_
       (simp only [HV,hv,Am,BA,w0,seval])
       refine ⟨i + 1,by omega,by omega,?_⟩
       rw [hσ']
       have h3:Pw σ'=Sh 6 σ':=if_neg Aa
       have h4:Qh σ'=7:=if_neg Aa
       rw [h3,h4]
       refine Ak.fr [0,1,2,3,4,5,6] [] hx AQ Aj ?_ ?_
       ·simp only [LY,seval]
       ·simp only [HV,hv,DN,seval]
      ·have hm:Af M 70 [.ptr 5 [],.ptr 0 []] _ _ _:=h
       simp only [Nh,Sh,hv σ.m,hhl] at hm
       have zz:=CC @HV hv EZ;refine FA [0,1,2,3,4,5,6] (hm) ?_
       (simp only [HV,hv,Am,BA,w0,seval])
       refine ⟨i + 1,by omega,by omega,?_⟩
       rw [hσ']
       have h3:Pw σ'=Sh 6 σ':=if_neg Aa
       have h4:Qh σ'=7:=if_neg Aa
       rw [h3,h4]
       refine Ak.fr [0,1,2,3,4,5,199] [] hx AQ Aj ?_ ?_
       ·simp only [LY,seval]
       ·simp only [HV,hv,DN,seval]
   ·have d0:((i:Int) < (n:Int))=False:=eq_false Aa
    obtain ⟨q1,q2⟩:=hfin (.inl Aa)
    rw [q1,q2,h1,h2]
    (simp only [d0,HV,hv,LZ,seval])
    have zz:=CC @HV hv Laa;exact Bz hx [0,1,2,3,4,5,6] ⟨rfl,rfl,rfl⟩
def Agx:LC:=(sr [mI 2 0,
 mI 3 0] (.seq (sr [mt 6 0,A1 7 (.eq false true (.iface [74]) (.t 6) (.c .nili))] (.cond (.t 7) (sr [mI 2 0,A1 3 (.mv (.c (.int .i64 (-1))))] .ret) .skip)) (sr [A1 4 (.alloc (.int .i64))] (.seq (sr [mt 8 0,A1 9 (.mkif 394 (.t 4)),kl 10 93 [(.t 8),(.t 9)],A1 11 (.un .not (.t 10))] (.cond (.t 11) (sr [A1 2 (.mv (.c (.int .i64 (-1)))),A1 3 (.mv (.c (.int .i64 (-1))))] .ret) .skip)) (sr [A1 5 (.alloc .ptr)] (.seq (sr [mt 12 0,A1 13 (.mkif 147 (.t 5)),kl 14 93 [(.t 12),(.t 13)],mt 15 14,A2 16 15 true (.load false 1 (.t 5)),A2 17 15 true (.eq true true .ptr (.t 16) (.c .nilp)),
  Ju 18 15 17] (.cond (.t 18) (.seq (.regd [⟨0,0,lb 19 1 4⟩,⟨1,0,lb 20 1 5⟩,⟨2,2,nc 21 20⟩,⟨3,6,fa 22 0 21⟩,⟨4,14,lb 23 1 22⟩,⟨5,1,mt 2 19⟩,⟨6,63,mt 3 23⟩]) .ret) .skip)) (sr [lb 24 1 4,mt 2 24,A1 3 (.mv (.c (.int .i64 (-1))))] .ret)))))))
def Ajd:LF:=⟨Agx,1,0,25,[.tmp 2,.tmp 3]⟩
abbrev erN (a:Int):V:=.ifc 74 (.int .i64 a)
structure OkN (M:Seat):Prop where
 k140:Av M 140 Ajd=true
 as1:∀ a b:Int,Af M 93 [erN a,.ifc 394 (.ptr 0 [])] [(0,.int .i64 b)] 1 (Q3 (.bool true) [(0,.int .i64 a)] 1)
 as2:∀ a:Int,Af M 93 [erN a,.ifc 147 (.ptr 0 [])] [(0,.nilp)] 1 (Q3 (.bool false) [(0,.nilp)] 1)
theorem Qf {M:Seat} (ok:OkN M):Af M 140 [.nili] [] 0 (Q3 (Ah (.int .i64 0) (.int .i64 (-1))) [] 0):=by
 refine Ab ok.k140 rfl fun x hx=>?_
 refine es 2000 ?_;(simp only [Ajd,Agx,LZ,seval])
 exact Ap.mkZ hx [] ⟨rfl,rfl,rfl⟩
theorem O4 {M:Seat} (ok:OkN M) (a:Int):Af M 140 [erN a] [] 0 (Q3 (Ah (.int .i64 a) (.int .i64 (-1))) [] 0):=by
 refine Ab ok.k140 rfl fun x hx=>?_
 refine es 2000 ?_;(simp only [Ajd,Agx,LZ,seval])
 refine J6 [64] (ok.as1 a 0) ?_
 (simp only [LZ,seval])
 refine J6 [144] (ok.as2 a) ?_
 (simp only [LZ,seval])
 exact Ap.mkZ hx [] ⟨rfl,rfl,rfl⟩
def Aqh (r n b:BitVec 64):Prop:=r >>> 63=1#64 ∨ n≤(r <<< 1 ||| b)
instance (r n b:BitVec 64):Decidable (Aqh r n b):=inferInstanceAs (Decidable (_ ∨ _))
variable {M:Seat}
def Hg (H H':Hp):Prop:=∀ i,Ac H' i=Ac H i∧hget H' i=hget H i
theorem I8 {i:Nat}:∀ {H:Hp},Ac H i=false→hget H i = .junk
 | [],_=>rfl
 | (j, v) :: r, h => by
   simp only [Ac,Bool.or_eq_false_iff,beq_eq_false_iff_ne,ne_eq] at h
   simp only [hget,if_neg h.1]
   exact I8 h.2
theorem Hg.symm {H H':Hp} (h:Hg H H'):Hg H' H:=fun i=>⟨(h i).1.symm,(h i).2.symm⟩
theorem Hg.swap {A B:Hp} (h:∀ i,Ac A i=true→Ac B i=false):Hg (A ++ B) (B ++ A):=fun i=>by
 rw [B7,B7,Bool.or_comm]
 refine ⟨rfl,?_⟩
 cases ha:Ac A i with
 | true =>
   have hb:=h i ha
   rw [Bs hb,CN ha]
 | false =>
   rw [Bs (H:=A) ha]
   cases hb:Ac B i with
   | true=>rw [CN hb]
   | false=>rw [Bs hb,I8 ha,I8 hb]
theorem Inv.same {c:Ctx} {e:Env} {H H':Hp} (hI:Inv M c e H) (h:Hg H H'):Inv M c e H' where
 ev:=hI.ev
 blk id hid:=by
  rw [(h id).1] at hid
  rw [(h id).2];exact hI.blk id hid
 inj i j hi hj:=hI.inj i j ((h i).1 ▸ hi) ((h j).1 ▸ hj)
 imo:=hI.imo
 imb:=hI.imb
 rb:=hI.rb
 keep:=hI.keep
 low:=hI.low
 gs:=hI.gs
 φ:=hI.φ
 τ:=hI.τ
theorem AT.same {f:Nat} {us:List V} {H H2:Hp} {n:Nat} {K:V→Hp→Prop} (h:AT M f us H n K) (hs:Hg H2 H):AT M f us H2 n K :=
 fun c e vs hI hD hk ha=>h c e vs (hI.same hs) hD hk ha
theorem AT.out {f:Nat} {us:List V} {H:Hp} {n:Nat} {K K':V→Hp→Prop} (h:AT M f us H n K) (hK:∀ v H1,K v H1→∃ H2,Hg H1 H2∧K' v H2):AT M f us H n K':=by
 intro c e vs hI hD hk ha
 refine (h c e vs hI hD hk ha).mono ?_
 rintro en w' ⟨x,v,e',H',h1,h2,h3,h4,h5,h6,h7⟩
 obtain ⟨H2,k1,k2⟩:=hK v H' h7
 exact ⟨x,v,e',H2,h1,h2,h3,h4.same k1,h5,h6,k2⟩
def ow (b n:Nat) (own:Hp):Bool:=own.all fun p=>decide (17≤p.1) && decide (p.1 ≠ b) && decide (p.1 < n)
def owk (n:Nat) (own:Hp):Bool:=own.all fun p=>decide (17≤p.1) && decide (p.1 < n)
def Zz (b n:Nat) (own:Hp):Prop:=∀ i,Ac own i=true→17≤i∧i ≠ b∧i < n
theorem Fb {b n:Nat}:∀ {own:Hp},ow b n own=true→Zz b n own
 | [],_,_,h=>by cases h
 | (j, v) :: r, ho, i, h => by
   simp only [ow,List.all_cons,Bool.and_eq_true,decide_eq_true_eq] at ho
   simp only [Og,beq_iff_eq] at h
   rcases h with rfl | h
   ·exact ⟨ho.1.1.1,ho.1.1.2,ho.1.2⟩
   ·exact Fb (own:=r) ho.2 i h
theorem Hs {b n:Nat} (hb:b < 17):∀ {own:Hp},owk n own=true→Zz b n own
 | [],_,_,h=>by cases h
 | (j, v) :: r, ho, i, h => by
   simp only [owk,List.all_cons,Bool.and_eq_true,decide_eq_true_eq] at ho
   simp only [Og,beq_iff_eq] at h
   rcases h with rfl | h
   ·exact ⟨ho.1.1,by omega,ho.1.2⟩
   ·exact Hs hb (own:=r) ho.2 i h
theorem Gg {i:Nat}:∀ {H:Hp},Ac H i=false→BJ H i=H
 | [],_=>rfl
 | (j, v) :: r, h => by
   simp only [Ac,Bool.or_eq_false_iff,beq_eq_false_iff_ne,ne_eq] at h
   simp only [BJ,if_neg h.1]
   rw [Gg h.2]
theorem OF {lo hi:Nat}:∀ {H:Hp},(∀ i,Ac H i=true→i < lo ∨ hi≤i)→DQ lo hi H
 | [],_=>trivial
 | (j,v) :: r,h=>⟨h j (by simp [Ac]),OF (H:=r) fun i hi=>h i (by simp [Ac,hi])⟩
def Cr:Option Int→V
 | none=>.nili
 | some a=>.ifc 74 (.int .i64 a)
structure Mm (σ:Type) where
 rd:σ→BitVec 64→BitVec 64 × Option Int × σ
 wr:σ→BitVec 64→BitVec 64→Option Int × σ
 pi:σ→Dg→Pr × Option Int × σ
def KF (us us':List V):Prop:=∀ (H:Hp) (m z:List Nat),m[0]?=some 0→Bh H m z us us'
def KO (v:V):Prop:=∀ m:List Nat,v.ren m=v
structure MemI (M:Seat) where
 σ:Type
 t:Nat
 ht:t=422 ∨ t=426
 k0:Nat
 kk:Nat
 hk:1≤k0∧k0≤16∧k0≤kk∧kk≤k0 + 1
 E:σ→Nat→Hp
 E0:σ→Hp
 mm:Mm σ
 Z:σ→Prop
 len:σ→Nat
 lr:∀ s a,len (mm.rd s a).2.2≤len s + 1
 lw:∀ s a v,len (mm.wr s a v).2≤len s + 1
 lp:∀ s h,len (mm.pi s h).2.2≤len s
 lz:∀ s,Z s→len s=0
 hids:∀ s b i,Ac (E s b) i=true→i < k0 ∨ i=b
 hids0:∀ s i,Ac (E0 s) i=true→i < k0
 sim0:∀ (s:σ) (H:Hp) (m z:List Nat),(∀ i,i < k0→m[i]?=some i)→(∀ i,Ac (E0 s) i=true→Ac H i=true∧hget H i=hget (E0 s) i)→Bq H m z (E0 s)
 simE:∀ (s:σ) (b b':Nat) (H:Hp) (m z:List Nat),k0≤b→(∀ i,i < k0→m[i]?=some i)→m[b']?=some b→(∀ i,Ac (E s b) i=true→Ac H i=true∧hget H i=hget (E s b) i)→Bq H m z (E s b')
 c0:∀ {f:Nat} {us us':List V} {v:V} {s s':σ} (own:Hp) {n:Nat} {K:V→Hp→Prop},Af M f us (E0 s) k0 (Q3 v (E s' k0) (k0 + 1))→KF us us'→KO v→Zz 0 n own→K v (own ++ E s' n)→AT M f us' (own ++ E0 s) n K
 ck:∀ {f:Nat} {us us':List V} {v:V} {s s':σ} {b:Nat} (own:Hp) {n:Nat} {K:V→Hp→Prop},Af M f us (E s k0) kk (Q3 v (E s' kk) (kk + 1))→KF us us'→KO v→k0≤b→Zz b n own→K v (own ++ E s' n)→AT M f us' (own ++ E s b) n K
 cu:∀ {f:Nat} {us us':List V} {v:V} {s s':σ} {b:Nat} (own:Hp) {n:Nat} {K:V→Hp→Prop},Af M f us (E s k0) kk (Q3 v (E s' k0) (kk + 1))→KF us us'→KO v→k0≤b→Zz b n own→K v (own ++ E s' b)→AT M f us' (own ++ E s b) n K
 fr:Nat
 fw:Nat
 fp:Nat
 mr:CK M t 0 fr
 mw:CK M t 1 fw
 mp:CK M t 2 fp
 rr0:∀ (s:σ) (a:BitVec 64),Z s→¬ 8192#64≤a→Af M fr [.ptr 0 [],W a] (E0 s) k0 (Q3 (Ah (W (mm.rd s a).1) (Cr (mm.rd s a).2.1)) (E (mm.rd s a).2.2 k0) (k0 + 1))
 rr:∀ (s:σ) (a:BitVec 64),len s≤100→¬ 8192#64≤a→Af M fr [.ptr 0 [],W a] (E s k0) kk (Q3 (Ah (W (mm.rd s a).1) (Cr (mm.rd s a).2.1)) (E (mm.rd s a).2.2 kk) (kk + 1))
 rw:∀ (s:σ) (a v:BitVec 64),len s≤100→¬ 8192#64≤a→Af M fw [.ptr 0 [],W a,W v] (E s k0) kk (Q3 (Cr (mm.wr s a v).1) (E (mm.wr s a v).2 kk) (kk + 1))
 rp:∀ (s:σ) (h:Dg),Af M fp [.ptr 0 [],dg h] (E s k0) kk (Q3 (Ah (A9 (mm.pi s h).1) (Cr (mm.pi s h).2.1)) (E (mm.pi s h).2.2 k0) (kk + 1))
theorem FP (i:Nat):∀ (A B:Hp),BJ (A ++ B) i=BJ A i ++ BJ B i
 | [],_=>rfl
 | (j, v) :: r, B => by
   simp only [List.cons_append,BJ]
   split
   ·exact FP i r B
   ·rw [FP i r B];rfl
theorem M1 {own E:Hp}:∀ {m0:List Nat},(∀ i ∈ m0,Ac own i=false)→A5 (own ++ E) m0=own ++ A5 E m0
 | [],_=>rfl
 | i :: r, h => by
   rw [A5,M1 (m0:=r) (fun j hj=>h j (by simp [hj])),FP,Gg (h i B1),A5]
theorem Ow {own E:Hp} {i:Nat}:∀ {m0:List Nat},(∀ p ∈ m0,Ac own p=false)→Gu m0 (own ++ E) i=Gu m0 E i
 | [],_=>rfl
 | p :: r, h => by
   have hp:=h p B1
   have ih:=Ow (own:=own) (E:=E) (i:=i) (m0:=r) (fun q hq=>h q (by simp [hq]))
   unfold Gu at ih ⊢
   rw [List.any_cons,List.any_cons,ih,B7,hp,Bool.false_or,Bs hp]
theorem Dd {own E:Hp} (hd:∀ i,Ac E i=true→Ac own i=false) (i:Nat) (h:Ac E i=true):Ac (own ++ E) i=true∧hget (own ++ E) i=hget E i:=by
 have hn:=hd i h
 rw [B7,hn,Bs hn,h]
 exact ⟨rfl,rfl⟩
theorem Dm {f:Nat} {us us':List V} {v:V} {own E E' H0 Hn:Hp} {n k kn:Nat} {K:V→Hp→Prop} (m m0:List Nat) (hr:Af M f us H0 k (Q3 v Hn kn))
 (h0:∀ id i,Ac H0 id=true→m[id]?=some i→i ∈ m0) (h0m:∀ i ∈ m0,i ∈ m) (hm:m.Nodup) (hk:m.length=k∧kn≤k + 16) (hall0:∀ i ∈ m0,Ac E i=true∧Ac own i=false) (hall:∀ i ∈ m,Ac E i=true ∨ Gu m0 E i=true) (hus:Bh (own ++ E) m [] us us') (hH:Bq (own ++ E) m [] H0)
 (hren:AM (Bp m n kn) Hn=E') (hrst:A5 E m0=[]) (hv:KO v) (hd:∀ i,Ac E' i=true→Ac own i=false) (hK:K v (own ++ E')):AT M f us' (own ++ E) n K:=by
 have key:AT M f us' (own ++ E) n (fun v' H'=>v'=v∧H'=E' ++ own):=by
  refine GV hr False m m0 [] h0 h0m hm B1 hk.1 (fun i hi=>by rw [B7,(hall0 i hi).1,Bool.or_true]) (fun i hi=>?_) hus hH ?_
  ·rcases hall i hi with h | h
   ·left;rw [B7,h,Bool.or_true]
   ·exact .inr (.inr ((Ow (fun p hp=>(hall0 p hp).2)).trans h))
  ·rintro v' H' k' ⟨rfl,rfl,rfl⟩
   refine ⟨⟨hk.2,fun h=>h.elim⟩,hv _,?_⟩
   rw [hren,if_neg (fun h:False=>h),List.append_nil,M1 (fun i hi=>(hall0 i hi).2),hrst,List.append_nil]
 refine AT.out key ?_
 rintro v' H' ⟨rfl,rfl⟩
 exact ⟨own ++ E',Hg.swap (fun i hi=>hd i hi),hK⟩
theorem J2 (e:Option Int) (m:List Nat):(Cr e).ren m=Cr e:=by cases e <;> rfl
theorem Wd (e:Option Int) (H:Hp) (m z:List Nat):Ar H m z (Cr e) (Cr e):=by cases e <;> simp [Cr,Ar]
namespace MemI
variable {M:Seat} (I:MemI M)
theorem noE {s:I.σ} {b i:Nat} (h:17≤i) (hb:i ≠ b):Ac (I.E s b) i=false:=by
 cases hh:Ac (I.E s b) i with
 | false=>rfl
 | true => rcases I.hids s b i hh with h' | h'
           ·have:=I.hk;omega
           ·exact absurd h' hb
theorem no0 {s:I.σ} {i:Nat} (h:17≤i):Ac (I.E0 s) i=false:=by
 cases hh:Ac (I.E0 s) i with
 | false=>rfl
 | true=>have:=I.hids0 s i hh;have:=I.hk;omega
theorem hdelE (s:I.σ) (b i:Nat) (h:17≤i) (hb:¬ i=b):BJ (I.E s b) i=I.E s b:=Gg (I.noE h hb)
theorem hdel0 (s:I.σ) (i:Nat) (h:17≤i):BJ (I.E0 s) i=I.E0 s:=Gg (I.no0 h)
theorem idsE (s:I.σ) (b lo hi:Nat) (h:17≤lo) (hb:b < lo ∨ hi≤b):DQ lo hi (I.E s b)=True:=eq_true (OF fun i hi'=>by
 rcases I.hids s b i hi' with h' | h'
 ·have:=I.hk;exact .inl Aa
 ·subst h';exact hb)
theorem nil_in (v:Prop):(I.t ∈ [422,426]∧v)=v:=by
 rcases I.ht with h | h <;> rw [h] <;> simp
theorem tail {s:I.σ} {b n:Nat} {own:Hp} (ho:Zz b n own) (i:Nat) (h:Ac (I.E s b) i=true):Ac (own ++ I.E s b) i=true∧hget (own ++ I.E s b) i=hget (I.E s b) i:=by
 have hn:Ac own i=false:=by
  cases hh:Ac own i with
  | false=>rfl
  | true =>
    obtain ⟨h1,h2,_⟩:=ho i hh
    rw [I.noE h1 h2] at h;cases h
 rw [B7,hn,Bs hn,h]
 exact ⟨rfl,rfl⟩
theorem tail0 {s:I.σ} {b n:Nat} {own:Hp} (ho:Zz b n own) (i:Nat) (h:Ac (I.E0 s) i=true):Ac (own ++ I.E0 s) i=true∧hget (own ++ I.E0 s) i=hget (I.E0 s) i:=by
 have hn:Ac own i=false:=by
  cases hh:Ac own i with
  | false=>rfl
  | true =>
    obtain ⟨h1,_⟩:=ho i hh
    rw [I.no0 h1] at h;cases h
 rw [B7,hn,Bs hn,h]
 exact ⟨rfl,rfl⟩
theorem flatR (s:I.σ) (a:BitVec 64):KO (Ah (W (I.mm.rd s a).1) (Cr (I.mm.rd s a).2.1)):=fun m=>by simp only [Ah,V.ren,W,J2]
theorem flatP (s:I.σ) (h:Dg):KO (Ah (A9 (I.mm.pi s h).1) (Cr (I.mm.pi s h).2.1)):=fun m=>by simp only [Ah,V.ren,A9,B,J2]
theorem VJ (a:BitVec 64):KF [.ptr 0 [],W a] [.ptr 0 [],W a]:=fun H m z h=>by simp only [Bh,Bk,Ar,W,h,and_self]
theorem Aoz (a b:BitVec 64):KF [.ptr 0 [],W a,W b] [.ptr 0 [],W a,W b]:=fun H m z h=>by simp only [Bh,Bk,Ar,W,h,and_self]
theorem Akq {d:Dg} {v:V} (hv:∀ H m z,Bk H m z (dg d) v):KF [.ptr 0 [],dg d] [.ptr 0 [],v]:=fun H m z h=>⟨by simp only [Bk,Ar,h,and_self],hv H m z,trivial⟩
theorem dynR0 {n:Nat} {K:V→Hp→Prop} (own:Hp) {s:I.σ} (hz:I.Z s) {a:BitVec 64} {u w:V} (h:¬ 8192#64≤a) (ho:owk n own=true) (hK:K (Ah (W (I.mm.rd s a).1) (Cr (I.mm.rd s a).2.1)) (own ++ I.E (I.mm.rd s a).2.2 n)):ED M (.fcons 0 u w) [.ifc I.t (.ptr 0 []),W a] (own ++ I.E0 s) n K :=
 ⟨rfl,I.fr,I.mr,I.c0 own (I.rr0 s a hz h) (VJ a) (I.flatR s a) (Hs Aa ho) hK⟩
theorem dynR {n:Nat} {K:V→Hp→Prop} (own:Hp) {s:I.σ} {b:Nat} {a:BitVec 64} {u w:V} (hL:I.len s≤100) (h:¬ 8192#64≤a) (hb:17≤b) (ho:ow b n own=true) (hK:K (Ah (W (I.mm.rd s a).1) (Cr (I.mm.rd s a).2.1)) (own ++ I.E (I.mm.rd s a).2.2 n)):ED M (.fcons 0 u w) [.ifc I.t (.ptr 0 []),W a] (own ++ I.E s b) n K :=
 ⟨rfl,I.fr,I.mr,I.ck own (I.rr s a hL h) (VJ a) (I.flatR s a) G8 (Fb ho) hK⟩
theorem dynRk {n:Nat} {K:V→Hp→Prop} (own:Hp) {s:I.σ} {a:BitVec 64} {u w:V} (hL:I.len s≤100) (h:¬ 8192#64≤a) (ho:owk n own=true) (hK:K (Ah (W (I.mm.rd s a).1) (Cr (I.mm.rd s a).2.1)) (own ++ I.E (I.mm.rd s a).2.2 n)):ED M (.fcons 0 u w) [.ifc I.t (.ptr 0 []),W a] (own ++ I.E s I.k0) n K :=
 ⟨rfl,I.fr,I.mr,I.ck own (I.rr s a hL h) (VJ a) (I.flatR s a) (Nat.le_refl _) (Hs G8 ho) hK⟩
theorem dynW {n:Nat} {K:V→Hp→Prop} (own:Hp) {s:I.σ} {b:Nat} {a v:BitVec 64} {u w:V} (hL:I.len s≤100) (h:¬ 8192#64≤a) (hb:17≤b) (ho:ow b n own=true) (hK:K (Cr (I.mm.wr s a v).1) (own ++ I.E (I.mm.wr s a v).2 n)):ED M (.fcons 1 u w) [.ifc I.t (.ptr 0 []),W a,W v] (own ++ I.E s b) n K :=
 ⟨rfl,I.fw,I.mw,I.ck own (I.rw s a v hL h) (Aoz a v) (fun m=>J2 _ m) G8 (Fb ho) hK⟩
theorem dynP {n:Nat} {K:V→Hp→Prop} (own:Hp) {s:I.σ} {b:Nat} {h:Dg} {u w v:V} (hv:∀ H m z,Bk H m z (dg h) v) (hb:17≤b) (ho:ow b n own=true) (hK:K (Ah (A9 (I.mm.pi s h).1) (Cr (I.mm.pi s h).2.1)) (own ++ I.E (I.mm.pi s h).2.2 b)):ED M (.fcons 2 u w) [.ifc I.t (.ptr 0 []),v] (own ++ I.E s b) n K :=
 ⟨rfl,I.fp,I.mp,I.cu own (I.rp s h) (Akq hv) (I.flatP s h) G8 (Fb ho) hK⟩
theorem opyR {n:Nat} {C:V→Hp→Prop} (own:Hp) {s:I.σ} {b:Nat} {a:BitVec 64} {u w:V} (hL:I.len s≤100) (h:¬ 8192#64≤a) (hb:17≤b) (ho:ow b n own=true) (hC:C (Ah (W (I.mm.rd s a).1) (Cr (I.mm.rd s a).2.1)) (own ++ I.E (I.mm.rd s a).2.2 n)):UJ M (.fcons 0 u w) [.ifc I.t (.ptr 0 []),W a] (own ++ I.E s b) n C :=
 ⟨_,_,I.dynR own hL h hb ho ⟨rfl,rfl⟩,hC⟩
theorem opyW {n:Nat} {C:V→Hp→Prop} (own:Hp) {s:I.σ} {b:Nat} {a v:BitVec 64} {u w:V} (hL:I.len s≤100) (h:¬ 8192#64≤a) (hb:17≤b) (ho:ow b n own=true) (hC:C (Cr (I.mm.wr s a v).1) (own ++ I.E (I.mm.wr s a v).2 n)):UJ M (.fcons 1 u w) [.ifc I.t (.ptr 0 []),W a,W v] (own ++ I.E s b) n C :=
 ⟨_,_,I.dynW own hL h hb ho ⟨rfl,rfl⟩,hC⟩
theorem opyP {n:Nat} {C:V→Hp→Prop} (own:Hp) {s:I.σ} {b:Nat} {h:Dg} {u w v:V} (hv:∀ H m z,Bk H m z (dg h) v) (hb:17≤b) (ho:ow b n own=true) (hC:C (Ah (A9 (I.mm.pi s h).1) (Cr (I.mm.pi s h).2.1)) (own ++ I.E (I.mm.pi s h).2.2 b)):UJ M (.fcons 2 u w) [.ifc I.t (.ptr 0 []),v] (own ++ I.E s b) n C :=
 ⟨_,_,I.dynP own hv hb ho ⟨rfl,rfl⟩,hC⟩
theorem rng {q b j:Nat} (h:j < q):(List.range q ++ [b])[j]?=some j:=by
 rw [List.getElem?_append_left L7];simp [h]
theorem Apu {q b:Nat}:(List.range q ++ [b])[q]?=some b:=by
 rw [List.getElem?_append_right B1];simp
theorem VY {q b:Nat} (h:q≤b):(decide (List.range q ++ [b]).Nodup && ([]:List Nat).all (fun i=>!(List.range q ++ [b]).contains i) && decide ((List.range q ++ [b]).length≤q + 1) && decide (q≤q + 1) && (List.range q).all (fun j=>(List.range q ++ [b])[j]? == some j))=true:=by
 simp only [Lc6,decide_eq_true_eq,List.all_nil,beq_iff_eq]
 refine ⟨⟨⟨⟨?_,trivial⟩,by simp⟩,by omega⟩,fun j hj=>rng (List.mem_range.1 hj)⟩
 rw [List.nodup_append]
 refine ⟨List.nodup_range,by simp,?_⟩
 intro a ha c hc
 simp only [List.mem_range,List.mem_singleton] at ha hc
 omega
theorem ret {x:Ctx} {rs:List RVr} {Q:V→Hp→Nat→Prop} {A:List V} (own:Hp) {s:I.σ} {b N q:Nat} {v:V} (hq:I.k0≤q∧q≤17) (hx:x.k=q) (hb:17≤b) (ho:(own.all fun p=>decide (17≤p.1) && decide (p.1 ≠ b))=true)
 (h4:Q v (I.E s q) (q + 1)) (h1:(En A (own ++ I.E s b) rs).1) (h2:Bk (own ++ I.E s b) (List.range q ++ [b]) [] v (En A (own ++ I.E s b) rs).2):Ap M x rs Q A (own ++ I.E s b) N:=by
 refine Ap.mk hx (List.range q ++ [b]) [] v (I.E s q) (q + 1) (VY Aa) h1 h2 (I.simE s b q _ _ _ Aa (fun i hi=>rng Aa) Apu (I.tail (n:=own.foldl (fun a p=>max a (p.1 + 1)) 0) fun i hi=>?_)) h4
 have:∀ (own:Hp) (a:Nat),(own.all fun p=>decide (17≤p.1) && decide (p.1 ≠ b))=true→(Ac own i=true→17≤i∧i ≠ b∧i < own.foldl (fun a p=>max a (p.1 + 1)) a)∧a≤own.foldl (fun a p=>max a (p.1 + 1)) a:=by
  intro own
  induction own with
  | nil=>intro a _;exact ⟨(fun h=>by cases h),Nat.le_refl _⟩
  | cons p r ih =>
    intro a ho
    simp only [List.all_cons,Bool.and_eq_true,decide_eq_true_eq] at ho
    obtain ⟨k1,k2⟩:=ih (max a (p.1 + 1)) ho.2
    simp only [List.foldl_cons]
    refine ⟨fun h=>?_,by omega⟩
    have h:(p.1 == i || Ac r i)=true:=h
    simp only [Bool.or_eq_true,beq_iff_eq] at h
    rcases h with h | h
    ·subst h;exact ⟨ho.1.1,ho.1.2,by omega⟩
    ·exact k1 h
 exact (this own 0 ho).1 hi
theorem ret0 {x:Ctx} {rs:List RVr} {Q:V→Hp→Nat→Prop} {A:List V} (own:Hp) {s:I.σ} {N:Nat} {v:V} (hx:x.k=I.k0) {n:Nat} (ho:owk n own=true)
 (h4:Q v (I.E0 s) (I.k0 + 1)) (h1:(En A (own ++ I.E0 s) rs).1) (h2:Bk (own ++ I.E0 s) (List.range I.k0 ++ [n]) [] v (En A (own ++ I.E0 s) rs).2) (hn:17≤n):Ap M x rs Q A (own ++ I.E0 s) N:=by
 have:=I.hk
 exact Ap.mk hx (List.range I.k0 ++ [n]) [] v (I.E0 s) (I.k0 + 1) (VY Aa) h1 h2 (I.sim0 s _ _ _ (fun i hi=>rng hi) (I.tail0 (Hs (b:=0) Aa ho))) h4
theorem retU {x:Ctx} {rs:List RVr} {Q:V→Hp→Nat→Prop} {A:List V} (own:Hp) {s:I.σ} {N n:Nat} {v:V} (hx:x.k=I.kk) (ho:owk n own=true)
 (h4:Q v (I.E s I.k0) (I.kk + 1)) (h1:(En A (own ++ I.E s I.k0) rs).1) (h2:Bk (own ++ I.E s I.k0) (List.range (I.k0 + 1)) [] v (En A (own ++ I.E s I.k0) rs).2):Ap M x rs Q A (own ++ I.E s I.k0) N:=by
 have:=I.hk
 refine Ap.mk hx (List.range (I.k0 + 1)) [] v (I.E s I.k0) (I.kk + 1) ?_ h1 h2 (I.simE s I.k0 I.k0 _ _ _ (Nat.le_refl _) (fun i hi=>?_) ?_ (I.tail (Hs Aa ho))) h4
 ·simp only [Lc6,decide_eq_true_eq,List.all_nil,beq_iff_eq]
  exact ⟨⟨⟨⟨List.nodup_range,trivial⟩,by simp;omega⟩,by omega⟩,fun j hj=>by rw [List.getElem?_range (by have:=List.mem_range.1 hj;omega)]⟩
 ·rw [List.getElem?_range Aa]
 ·rw [List.getElem?_range Aa]
theorem sm (own:Hp) {s:I.σ} {b b' n:Nat} {m z:List Nat} (h1:(List.range 17).all (fun j=>m[j]? == some j)=true) (h2:m[b']?=some b) (h3:ow b n own=true) (hb:17≤b:=by decide):Bq (own ++ I.E s b) m z (I.E s b') :=
 I.simE s b b' _ m z G8 (fun i hi=>by have:=List.all_eq_true.1 h1 i (List.mem_range.2 G8);simpa using this) h2 (I.tail (Fb h3))
end MemI
theorem Ak.frK {c:Ctx} {A:List V} {H:Hp} {N n:Nat} (m:List Nat) (hck:c.k≤17) {l:List (Nat × V)} {H':Hp} {N':Nat} (hlen:A.length=n)
 (hm:(decide m.Nodup && decide (m.length≤N') && decide (17≤N') && (List.range 17).all (fun j=>m[j]? == some j))=true) (hA:L1 H m [] A l) (hH:Bq H m [] H'):Ak M c A H N (Mv.fr n l) H' N':=by
 simp only [Bool.and_eq_true,decide_eq_true_eq] at hm
 refine Ak.sim m [] hm.1.1.1 B1 hm.1.1.2 Aa (fun j hj=>?_) (MM (by rw [Cq,hlen]) (fun t=>?_)) hH
 ·have:=List.all_eq_true.1 hm.2 j (List.mem_range.2 Aa);simpa using this
 ·by_cases ht:t < n
  ·exact Kz hA t ht
  ·have:(Mv.fr n l).getD t .junk = .junk:=by rw [List.getD_eq_getElem?_getD,List.getElem?_eq_none (by rw [Cq];omega)];rfl
   rw [this];trivial
theorem AK.up {x:Ctx} {Q:List V→Hp→Nat→Prop} {k:List It} {N N':Nat} {A:List V} {H:Hp} (hN:N≤N') (h:AK M x Q k N' A H):AK M x Q k N A H:=by
 rintro a w kr ⟨e,h1,h2,h3,h4,h5,h6⟩ hm
 exact h a w kr ⟨e,h1,h2,h3,fun id hid=>h4 id (Nat.le_trans hN hid),Nat.le_trans h5 hN,h6⟩ hm
end Mv
