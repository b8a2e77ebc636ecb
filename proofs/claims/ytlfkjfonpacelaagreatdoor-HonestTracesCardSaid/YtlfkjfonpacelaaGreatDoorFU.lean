/- A part. -/
import Derived.Test.YtlfkjfonpacelaaGreatDoorFT
set_option linter.all false
set_option maxRecDepth 20000
set_option maxHeartbeats 16000000
namespace Mv
open Go
theorem Agf {M:Seat} (ok:OkTr M) {m0:Mc} {p0:List (Dg × Pr)} {x:Ctx} (hx:x.k=0) {Q:List V→Hp→Nat→Prop} {K:List It} (z i n d:Nat) (hd:d < 20) (av:V) (hav:∀ H m z,Bk H m z av av) (t:Tr) (ht:t.n < 31) (hp:Pts m0 p0 t.n t.ps) (a:BitVec 64) (ha:a.toNat < 2 ^ d)
 (R:Dg) (h:Hd) (L:List Pf) (P:Pr) (e:Option Int) (s:SM) (hs:s.n < 1099511627776) (hX:(s.m,s.w.pres)=xs m0 p0 a.toNat) (hpv:pvX m0 p0 a.toNat=Ah (DM R h L P) (Cr e))
 (hk:∀ t':Tr,t'.n≤t.n + 2→Pts m0 p0 t'.n t'.ps→AK M x Q K 11 (Ok z i n d av) (DL m0 p0 d t')) :
 (s.n=0→AK M x Q (.code Kh :: K) 16 (TR z i n d av a 15 (Cr e)) (DL m0 p0 d (t.wi s.w) ++ uH s .nils ++ [(15,DM R h L P)])) ∧
 (0 < s.n→AK M x Q (.code Kh :: K) 17 (TR z i n d av a 15 (Cr e)) (DL m0 p0 d (t.wi s.w) ++ uH s (.sl 16 [] 0 s.n 32) ++ [(15,DM R h L P),(16,.ar 32 s.n fun j=>dg (s.q j))])):=by
 obtain ⟨t1,g1,g2,g3,g4,hR⟩:=Aaa ok.t (t.wi s.w) (by show t.n < 32;omega) hp d hd a ha
 rw [hpv] at hR
 have hT:=Aip ok (Q:=Q) (K:=K) hx z i n d hd av hav t1 (by have:t1.n≤t.n + 1:=g1;omega) g2 a ha R h L P e ⟨⟨s.w.pres,t1.w.ever,t1.w.a,t1.w.b,t1.w.met⟩,s.l,s.n,s.q,s.m⟩ hs hX (fun t' q1 q2=>hk t' (by have:t1.n≤t.n + 1:=g1;omega) q2)
 have hEV:∀ H m z,Bk H m z (Cr e) (Cr e):=by intro H m z;cases e <;> simp only [Bm,AE,LY,seval]
 obtain ⟨hT0,hT1⟩:=hT
 have gl:t1.l=t.l:=g3
 have gk:t1.knl=t.knl:=g4
 simp only [Ax,Aw,tH,Tr.wi,DM,Hd.v,AP] at hR
 simp only [uH,Tr.wi,DX] at hT0 hT1 ⊢
 constructor
 ·intro hz
  have hT:=hT0 hz
  cases e
  all_goals
   simp only [Bm,AE] at hR
   rcases hR with hR | hR
   all_goals
    refine es 2 ?_
    (simp only [Kh,TR,DL,F8,Ax,Aw,DM,Hd.v,E7,DX,seval])
    have zz:=F5 @Ax.eq_1 @Aw.eq_1 @Ce @EI;refine Df [7,8,9,10,3,4] [7,9,3,4] (hR) ?_
    (simp only [Ld,Ax,Aw,EC,As,Am,seval])
    refine AK.weak _ _ _ ?_ hT
    unfold Lr DL F8 Ax Aw DM
    first
    | refine Ak.fr [0, 1, 2, 3, 4, 5, 6, 7, 8, 9, 10, 11, 12, 13, 14, 15, 112] [] hx AQ Aj ?_ ?_
      ·simp only [hav,Bm,AE,LY,seval]
      ·simp only [gl,gk,Hd.v,AP,DX,Al,Be,Bj,AA,AU,DN,seval]
       done
    | refine Ak.fr [0, 1, 2, 3, 4, 5, 6, 7, 8, 48, 10, 11, 12, 13, 14, 15, 112] [] hx AQ Aj ?_ ?_
      ·simp only [hav,Bm,AE,LY,seval]
      ·simp only [gl,gk,Hd.v,AP,DX,Al,Be,Bj,AA,AU,DN,seval]
       done
 ·intro hz
  have hT:=hT1 hz
  cases e
  all_goals
   simp only [Bm,AE] at hR
   rcases hR with hR | hR
   all_goals
    refine es 2 ?_
    (simp only [Kh,TR,DL,F8,Ax,Aw,DM,Hd.v,E7,DX,seval])
    have zz:=F5 @Ax.eq_1 @Aw.eq_1 @Ce @EI;refine Df [7,8,9,10,3,4] [7,9,3,4] (hR) ?_
    (simp only [Ld,Ax,Aw,EC,As,Am,seval])
    refine AK.weak _ _ _ ?_ hT
    unfold Lr DL F8 Ax Aw DM
    first
    | refine Ak.fr [0, 1, 2, 3, 4, 5, 6, 7, 8, 9, 10, 11, 12, 13, 14, 15, 113, 16] [] hx AQ Aj ?_ ?_
      ·simp only [hav,Bm,AE,LY,seval]
      ·simp only [gl,gk,Hd.v,AP,DX,Al,Be,Bj,AA,AU,DN,seval]
       done
    | refine Ak.fr [0, 1, 2, 3, 4, 5, 6, 7, 8, 49, 10, 11, 12, 13, 14, 15, 113, 16] [] hx AQ Aj ?_ ?_
      ·simp only [hav,Bm,AE,LY,seval]
      ·simp only [gl,gk,Hd.v,AP,DX,Al,Be,Bj,AA,AU,DN,seval]
       done
theorem Aee {M:Seat} (ok:OkTr M) {m0:Mc} {p0:List (Dg × Pr)} {x:Ctx} (hx:x.k=0) {Q:List V→Hp→Nat→Prop} {K:List It} (z i n d:Nat) (hd:d < 20) (av:V) (hav:∀ H m z,Bk H m z av av) (t:Tr) (ht:t.n < 31) (hp:Pts m0 p0 t.n t.ps) (a:BitVec 64) (ha:a.toNat < 2 ^ d)
 (s:SM) (hs:s.n < 1099511627776) (hX:(s.m,s.w.pres)=xs m0 p0 a.toNat)
 (hk:∀ t':Tr,t'.n≤t.n + 2→Pts m0 p0 t'.n t'.ps→AK M x Q K 11 (Ok z i n d av) (DL m0 p0 d t')) :
 (s.n=0→AK M x Q (.code Kq :: K) 15 (Vh z i n d av a) (DL m0 p0 d (t.wi s.w) ++ uH s .nils)) ∧
 (0 < s.n→AK M x Q (.code Kq :: K) 16 (Vh z i n d av a) (DL m0 p0 d (t.wi s.w) ++ uH s (.sl 15 [] 0 s.n 32) ++ [(15,.ar 32 s.n fun j=>dg (s.q j))])):=by
 have e0:GX s.m (CE s.w.pres s.m).1 (CE s.w.pres s.m).2.1 (CE s.w.pres s.m).2.2=pvX m0 p0 a.toNat:=by unfold pvX;rw [← hX]
 obtain ⟨R,h,L,P,hpv⟩:∃ (R:Dg) (h:Hd) (L:List Pf) (P:Pr),pvX m0 p0 a.toNat=Ah (DM R h L P) (Cr (CE s.w.pres s.m).1):=by
  rw [← e0];exact Ajk _ _ _ _
 have hPN:=MD ok.t.s s.m s.w.pres 0
 have hPS:=U4 ok.t.s s.m s.w.pres s.n
 rw [e0,hpv] at hPN hPS
 generalize (CE s.w.pres s.m).1=e at *
 obtain ⟨hT0,hT1⟩:=Agf ok (Q:=Q) (K:=K) hx z i n d hd av hav t ht hp a ha R h L P e s hs hX hpv hk
 have hv:∀ m:Mc,m.v=mach m.f m.g m.pc m.hl m.xt:=fun _=>rfl
 simp only [GC,hv,DM,Hd.v,AP] at hPN hPS
 simp only [uH,Tr.wi,DX] at hT0 hT1 ⊢
 constructor
 ·intro hz
  have hT:=hT0 hz
  cases e
  all_goals
   simp only [Bm,AE] at hPN
   refine es 2 ?_
   (simp only [Kq,Vh,DL,F8,Ax,Aw,DM,Hd.v,E7,DX,seval])
   have zz:=CC @mach.eq_1 @Ah.eq_1 To;refine Df [11,12,13,3,14] [11,12,13] (hPN) ?_
   (simp only [Ld,Ax,Aw,As,Am,seval])
   refine AK.weak _ _ _ ?_ hT
   unfold TR DL F8 Ax Aw DM
   refine Ak.fr [0,1,2,3,4,5,6,7,8,9,10,11,12,13,14,111] [] hx AQ Aj ?_ ?_
   ·simp only [hav,Bm,AE,LY,seval]
   ·simp only [Hd.v,AP,DX,Al,Be,Bj,AA,AU,DN,seval]
    done
 ·intro hz
  have hT:=hT1 hz
  cases e
  all_goals
   simp only [Bm,AE] at hPS
   refine es 2 ?_
   (simp only [Kq,Vh,DL,F8,Ax,Aw,DM,Hd.v,E7,DX,seval])
   have zz:=CC @mach.eq_1 @Ah.eq_1 To;refine Df [11,12,13,3,14,15] [11,12,13] (hPS) ?_
   (simp only [Ld,Ax,Aw,As,Am,seval])
   refine AK.weak _ _ _ ?_ hT
   unfold TR DL F8 Ax Aw DM
   refine Ak.fr [0,1,2,3,4,5,6,7,8,9,10,11,12,13,14,112,15] [] hx AQ Aj ?_ ?_
   ·simp only [hav,Bm,AE,LY,seval]
   ·simp only [Hd.v,AP,DX,Al,Be,Bj,AA,AU,DN,seval]
    done
variable {M:Seat}
theorem Ahw (c:Bool) (f g:Nat→BitVec 64) (pc:BitVec 64) (b:Bool) (xt:BitVec 64):AI c (ES.st (ES.cons 0 8192 true (ES.ar 8192 1 false ES.int) (ES.cons 8192 16 true (ES.ar 16 1 false ES.int) (ES.cons 8208 1 false ES.int (ES.cons 8209 1 false ES.bool (ES.cons 8210 1 false ES.int ES.nil)))))) (.st 8211 (.fcons 0 (.ar 1 8192 fun j=>W (f j)) (.fcons 8192 (.ar 1 16 fun j=>W (g j)) (.fcons 8208 (W pc) (.fcons 8209 (.bool b) (.fcons 8210 (W xt) .fnil)))))) (.st 8211 (.fcons 0 (.ar 1 8192 fun j=>W (f j)) (.fcons 8192 (.ar 1 16 fun j=>W (g j)) (.fcons 8208 (W pc) (.fcons 8209 (.bool b) (.fcons 8210 (W xt) .fnil))))))=True:=by
 simp [AI,W,V.fget,V.fhas]
 refine ⟨⟨⟨rfl,rfl,rfl⟩,fun _ _=>rfl⟩,⟨⟨rfl,rfl,rfl⟩,fun _ _=>rfl⟩,⟨rfl,rfl,rfl⟩,⟨rfl,rfl,rfl⟩,rfl,rfl,rfl⟩
theorem Ags (f g:Nat→BitVec 64) (pc:BitVec 64) (b:Bool) (xt:BitVec 64):AL (ES.st (ES.cons 0 8192 true (ES.ar 8192 1 false ES.int) (ES.cons 8192 16 true (ES.ar 16 1 false ES.int) (ES.cons 8208 1 false ES.int (ES.cons 8209 1 false ES.bool (ES.cons 8210 1 false ES.int ES.nil)))))) (.st 8211 (.fcons 0 (.ar 1 8192 fun j=>W (f j)) (.fcons 8192 (.ar 1 16 fun j=>W (g j)) (.fcons 8208 (W pc) (.fcons 8209 (.bool b) (.fcons 8210 (W xt) .fnil)))))) (.st 8211 (.fcons 0 (.ar 1 8192 fun j=>W (f j)) (.fcons 8192 (.ar 1 16 fun j=>W (g j)) (.fcons 8208 (W pc) (.fcons 8209 (.bool b) (.fcons 8210 (W xt) .fnil))))))=true:=by
 simp [AL,W,V.fget,V.fhas]
structure OkTl (M:Seat):Prop where
 r:OkTr M
 s:OkAs M
 o:OkO M
 k72:Av M 72 f72=true
 is:∀ a b:Int,Af M 63 [.ifc 74 (.int .i64 a),.ifc 74 (.int .i64 b)] [] 0 (Q3 (.bool (decide (a=b))) [] 0)
def Abx (z:Nat):List V:=fr 211 [(7,.ptr 0 []),(8,.ptr 1 []),(9,.ptr 6 []),(10,.int .i64 z),(11,.ptr 7 [])]
theorem Ap7 (ok:OkTl M) {m0:Mc} {p0:List (Dg × Pr)} {x:Ctx} (hx:x.k=0) (d:Nat) (hd:d < 20) (t:Tr) (hp:Pts m0 p0 t.n t.ps) :
 AK M x (Ap M x [RVr.tmp 6] fun r H' k'=>r = .bool true∧H'=[]∧k'=0) [.code Xp] 11 (Abx p0.length) (DL m0 p0 d t):=by
 have hS:=Qi ok.s t.n hp.pos t.ps d t.l
 have e0:(t.ps 0).m=m0:=by
  have:=hp.x 0 hp.pos
  rw [hp.z] at this
  exact (Prod.mk.inj this).1
 rw [e0] at hS
 generalize oK m0.f t.l 256=l2 at hS
 have hO:Af M 54 [.imm (mach m0.f m0.g m0.pc m0.hl m0.xt)] [] 0 (Q3 (Ah (dg m0.com) .nili) [] 0):=S6 ok.r.t.s.q.okA ok.r.t.s.d m0.f m0.g m0.pc m0.hl m0.xt
 generalize m0.com=C at *
 have hLn:=Mh ok.o ok.k72 ⟨p0,[],Pr.zero,Pr.zero,false⟩
 simp only [I9] at hLn
 simp only [Ax] at hS
 refine es 2000 ?_
 (simp only [Xp,Abx,DL,F8,Ax,Aw,DX,LZ,seval])
 have zz:=Bc @Al @EI;refine Df [7,8,9,10,3,4] [7,8,9] (hS) ?_
 (simp only [Dq,Ba,EC,E9,seval])
 have zz:=@mach.eq_1;refine CV (hO) ?_
 (simp only [BV,Ahw,Ags,mach,seval])
 have zz:=@Ce;refine Qw [1,2,3,4,5] [1,2] (hLn) ?_
 (simp only [BA,seval])
 exact Ap.mkZ hx [] ⟨rfl,rfl,rfl⟩
theorem QP (ok:OkT M) (s:SM) (hs:s.n=0) (hp:Cb s.w.pres) (n:Nat) (hn:n < 549755813888) :
 ∃ (k:Nat) (s':SM),k≤n∧(s'.m.hl=true ∨ k=n)∧(s'.m,s'.w.pres)=xs s.m s.w.pres k∧Cb s'.w.pres∧s'.n≤k ∧
  Af M 71 [.ptr 5 [],.ptr 0 [],.int .i64 n] (Nh s) 6 (Q3 (Ah (.int .i64 k) .nili) (Pw s') (Qh s')):=by
 obtain ⟨k,h1,h2,h3⟩:=Tl (fun j=>(OZ ok s j).m.hl=true) n
 obtain ⟨q1,q2,q3⟩:=J4 ok s hs k Aa
 exact ⟨k,OZ ok s k,h1,h3,q2,q3 hp,q1,Mj ok.ok.k71 (OZ ok s) hs n k h1 hn (fun i hi=>Adq ok s hs i Aa) h2 h3⟩
theorem Wy (ok:OkTl M) {m0:Mc} {p0:List (Dg × Pr)} (hpk:Cb p0) {x:Ctx} (hx:x.k=0) {J:List V→Hp→Nat→Prop} (aks:List (BitVec 64)) (av:V) (ha:av=Cz aks ∨ (av = .nils∧aks=[])) (hal:aks.length < 9223372036854775808) (d:Nat) (hd:1≤d∧d≤5) (i:Nat) (hi:i≤aks.length) (hi6:i≤6) (t:Tr) (ht:t.n≤1 + 2 * i) (hp:Pts m0 p0 t.n t.ps)
 (hk:∀ (t':Tr) (A:List V) (H:Hp) (N:Nat),i + 1≤aks.length→i + 1≤6→t'.n≤1 + 2 * (i + 1)→Pts m0 p0 t'.n t'.ps→Ak M x A H N (Ok p0.length (i + 1) aks.length d av) (DL m0 p0 d t') 11→J A H N) :
 AK M x (Ap M x [RVr.tmp 6] fun r H' k'=>r = .bool true∧H'=[]∧k'=0) (.code Rt :: .inv J :: [.blk 0,.code Xp]) 11 (Ok p0.length i aks.length d av) (DL m0 p0 d t):=by
 have hav:∀ H m z,Bk H m z av av:=by
  intro H m z
  rcases ha with rfl | ⟨rfl,-⟩
  ·simp only [Cz,ws,LY,seval]
  ·simp only [LY,seval]
 have hE:=Ap7 ok hx d Aa t hp
 by_cases hin:i=aks.length
 ·subst hin
  have d0:((aks.length:Int) < (aks.length:Int))=False:=eq_false Aa
  refine es 5 ?_
  (simp only [Rt,Ok,d0,LZ,seval])
  refine AK.weak _ _ _ ?_ hE
  unfold Abx DL F8 Ax Aw
  refine Ak.fr [0,1,2,3,4,5,6,7,8,9,10] [] hx AQ Aj ?_ ?_
  ·simp only [LY,seval]
  ·simp only [Al,Be,Bj,AA,Ay,Cm,seval]
 obtain rfl:av=Cz aks:=by
  rcases ha with h | ⟨-,rfl⟩
  ·exact h
  ·exact absurd (Nat.le_zero.mp hi) hin
 have d0:((i:Int) < (aks.length:Int))=True:=eq_true Aa
 have d1:(0≤(i:Int))=True:=eq_true Aa
 by_cases h6:i=6
 ·have d2:((6:Int)≤(i:Int))=True:=eq_true Aa
  refine es 14 ?_
  (simp only [Rt,Ok,Cz,d0,d1,d2,LZ,seval])
  repeat refine sd ?_
  refine AK.weak _ _ _ ?_ hE
  unfold Abx DL F8 Ax Aw
  refine Ak.fr [0,1,2,3,4,5,6,7,8,9,10] [] hx AQ Aj ?_ ?_
  ·simp only [LY,seval]
  ·simp only [Al,Be,Bj,AA,Ay,Cm,seval]
 have d2:((6:Int)≤(i:Int))=False:=eq_false Aa
 have hD:(BitVec.ofInt 64 (d:Int)).toNat=d:=by rw [BitVec.ofInt_natCast,BitVec.toNat_ofNat];omega
 have wI:IntKind.i64.wrap ((i:Int) + 1)=((i + 1:Nat):Int):=Bw
 have hwd:Cz aks = .lst 1 aks.length (ws aks):=rfl
 obtain ⟨a,ea⟩:∃ a,aks.getD i 0#64=a:=⟨_,rfl⟩
 by_cases hr:1#64 <<< d≤a
 ·have hA:=Yv ok.r.t.a.k154 t.n d Aa a hr
  have hP:=Ve ok.r.t.k155 t.n d Aa a hr
  have hI:=ok.is 2 2
  have hr':=eq_true hr
  simp only [Ax,DM,Hd.v,AP,List.length_nil] at hA hP
  refine es 2000 ?_
  (simp only [Rt,Ok,hwd,d0,d1,d2,Js,hD,ea,hr',DL,F8,Ax,Aw,LZ,seval])
  repeat refine sd ?_
  refine PX [7,8,9,10] [7] (hA) (by constructor <;> (try simp only [LY,seval]) <;> exact q1) ?_
  (simp only [Dq,E9,seval])
  refine PX [7,8,9,10] [7] (hP) (by constructor <;> (try simp only [LY,seval]) <;> exact q1) ?_
  (simp only [Dq,E9,seval])
  refine Ai (hI) ?_
  (simp only [LZ,seval])
  refine Ai (hI) ?_
  (simp only [Ac2,wI,LZ,seval])
  refine hk t _ _ _ Aa Aa Aa hp ?_
  unfold Ok DL F8 Ax Aw
  refine Ak.fr [0,1,2,3,4,5,6,7,8,9,10] [] hx AQ Aj ?_ ?_
  ·simp only [Cz,LY,seval]
  ·simp only [Al,Be,Bj,AA,Ay,Cm,seval]
 have hlt:a.toNat < 2 ^ d:=by
  rw [BitVec.le_def,BitVec.toNat_shiftLeft,Nat.shiftLeft_eq] at hr
  have:2 ^ d≤2 ^ 5:=Nat.pow_le_pow_right Aj Aa
  rw [Nat.mod_eq_of_lt (by show 1 * 2 ^ d < 18446744073709551616;omega)] at hr
  have h1:((1#64:BitVec 64)).toNat=1:=rfl
  rw [h1] at hr
  omega
 have h32:2 ^ d≤2 ^ 5:=Nat.pow_le_pow_right Aj Aa
 have hr':=eq_false hr
 have hC:=BL ok.r.t.s.q.okA m0.f m0.g m0.pc m0.hl m0.xt
 have hSc:=D7 ok.r.t.s.p 0 p0
 obtain ⟨k,s',k1,k2,k3,k4,k5,hR⟩:=QP ok.r.e ⟨{ t.w with pres:=p0 },[],0,fun _=>Dg.zero,m0⟩ rfl hpk a.toNat Aa
 have hX:(s'.m,s'.w.pres)=xs m0 p0 a.toNat:=by
  rw [k3]
  rcases k2 with h | h
  ·have hh:=Zr (m:=m0) (p:=p0) k (by rw [← k3];exact h) (a.toNat - k)
   rw [show k + (a.toNat - k)=a.toNat by omega] at hh
   exact hh.symm
  ·rw [h]
 have hv:∀ m:Mc,m.v=mach m.f m.g m.pc m.hl m.xt:=fun _=>rfl
 have haI:a.toInt=(a.toNat:Int):=by rw [BitVec.toInt_eq_toNat_of_lt Aa]
 have hK:∀ t':Tr,t'.n≤t.n + 2→Pts m0 p0 t'.n t'.ps→AK M x (Ap M x [RVr.tmp 6] fun r H' k'=>r = .bool true∧H'=[]∧k'=0) [.blk 1,.code Ac2,.inv J,.blk 0,.code Xp] 11 (Ok p0.length i aks.length d (Cz aks)) (DL m0 p0 d t'):=by
  intro t' h1 h2
  refine es 2000 ?_
  (simp only [Ac2,Ok,wI,LZ,seval])
  refine hk t' _ _ _ Aa Aa Aa h2 ?_
  unfold Ok DL F8 Ax Aw
  refine Ak.fr [0,1,2,3,4,5,6,7,8,9,10] [] hx AQ Aj ?_ ?_
  ·simp only [Cz,LY,seval]
  ·simp only [Al,Be,Bj,AA,Ay,Cm,seval]
 have hs':s'.n < 1099511627776:=Aa
 obtain ⟨hT0,hT1⟩:=Aee ok.r hx p0.length i aks.length d Aa (Cz aks) hav t Aa hp a hlt s' hs' hX hK
 simp only [uH,Tr.wi,DX] at hT0 hT1
 simp only [Nh,Sh,AF,Jl,hv,Lt,Li] at hR
 by_cases hz:s'.n=0
 ·have hT:=hT0 hz
  rw [show Pw s'=Nh s' from if_pos hz,show Qh s'=6 from if_pos hz] at hR
  simp only [Nh,Sh,AF,Jl,hv,Lt,Li] at hR
  refine es 23 ?_
  (simp only [Rt,Ok,hwd,d0,d1,d2,Js,hD,ea,hr',DL,F8,Ax,Aw,LZ,seval])
  repeat refine sd ?_
  have zz:=@mach.eq_1;refine Ia (hC) ?_
  (simp only [BA,As,seval])
  have zz:=CC @Ay @DW @Ce;refine Zg [1,2,3,5] [1,2] (hSc) ?_
  (simp only [BA,As,Am,haI,seval])
  have zz:=Bc @mach.eq_1 EZ;refine FA [267,268,3,4,269,235] (hR) ?_
  (simp only [Dq,mach,Am,seval])
  refine AK.weak _ _ _ ?_ hT
  unfold Vh DL F8 Ax Aw
  refine Ak.fr [0,1,2,3,4,5,6,7,8,9,10,235,267,268,269] [] hx AQ Aj ?_ ?_
  ·simp only [Cz,LY,seval]
  ·simp only [DX,mach,Al,Be,Bj,AA,DN,seval]
 ·have hT:=hT1 (Nat.pos_of_ne_zero hz)
  rw [show Pw s'=Sh 6 s' from if_neg hz,show Qh s'=7 from if_neg hz] at hR
  simp only [Nh,Sh,AF,Jl,hv,Lt,Li] at hR
  refine es 23 ?_
  (simp only [Rt,Ok,hwd,d0,d1,d2,Js,hD,ea,hr',DL,F8,Ax,Aw,LZ,seval])
  repeat refine sd ?_
  have zz:=@mach.eq_1;refine Ia (hC) ?_
  (simp only [BA,As,seval])
  have zz:=CC @Ay @DW @Ce;refine Zg [1,2,3,5] [1,2] (hSc) ?_
  (simp only [BA,As,Am,haI,seval])
  have zz:=Bc @mach.eq_1 EZ;refine FA [267,268,3,4,269,235] (hR) ?_
  (simp only [Dq,mach,Am,seval])
  refine AK.weak _ _ _ ?_ hT
  unfold Vh DL F8 Ax Aw
  refine Ak.fr [0,1,2,3,4,5,6,7,8,9,10,235,267,268,269,379] [] hx AQ Aj ?_ ?_
  ·simp only [Cz,LY,seval]
  ·simp only [DX,mach,Al,Be,Bj,AA,DN,seval]
structure OkHj (M:Seat):Prop where
 i:OkHi M
 k255:Av M 255 Ani=true
 k257:Av M 257 f257=true
 k359:Av M 359 TY=true
def Y5 (g t c r n:Nat) (own:Int):V:=.st 5 (.fcons 0 (.ptr g []) (.fcons 1 (.ptr t []) (.fcons 2 (.sl c [] 0 n 42) (.fcons 3 (.sl r [] 0 n 1) (.fcons 4 (.int .i64 own) .fnil)))))
def acV (c:Int) (st df:Bool) (v:Dg) (p:V):V:=.st 151 (.fcons 0 (.int .i64 c) (.fcons 1 (.bool st) (.fcons 2 (.bool df) (.fcons 3 (dg v) (.fcons 35 p .fnil)))))
theorem MN {M:Seat} (ok:OkHj M) (n:Nat) (hn:0 < n) (own:Int) (c:Nat→Cl) (rt:Nat→Bool) (hp:(c 0).par = -1) (hr:rt 0=true) :
 Af M 255 [.ptr 0 [],.int .i64 0] [(0,Y5 1 2 3 4 n own),(3,Dj n c),(4,.ar 1 n fun j=>.bool (rt j))] 5 (Q3 (.bool true) [(0,Y5 1 2 3 4 n own),(3,Dj n c),(4,.ar 1 n fun j=>.bool (rt j))] 5):=by
 have d0:((0:Int) < (n:Int))=True:=eq_true Aa
 have d1:(0 < n)=True:=eq_true hn
 have d2:((n:Int)≤0)=False:=eq_false Aa
 refine Ab ok.k255 rfl fun x hx=>?_
 refine es 2000 ?_;(simp only [Ani,Ans,Y5,Dj,Cl.v,AJ,LZ,seval])
 refine Au ?_
 refine es 2000 ?_
 (simp only [Y5,Dj,Cl.v,AJ,d0,d1,d2,hp,hr,LZ,seval])
 repeat refine sd ?_
 have zz:=@dg.eq_1;exact Bz hx [0,1,2,3,4] ⟨rfl,rfl,rfl⟩
theorem Oo {M:Seat} (ok:OkHj M) (pres:List (Dg × Pr)) (l:List (Nat→BitVec 64)) (n:Nat) (own cl:Int) (c:Cl) (hst:c.st=false) (hpos:c.pos=2#64) :
 Af M 257 [.ptr 13 [],.ptr 17 [],c.v] (hB pres l ++ [(13,Y5 14 0 15 16 n own),(17,acV cl true false Dg.zero stZ)]) 18 (Q3 (Ah (.bool true) .nili) (hB pres l ++ [(13,Y5 14 0 15 16 n own),(17,acV cl true false Dg.zero (DM (BP B3.f 13 0) B3.h [AY B3.f 0#64] Pr.zero))]) 18):=by
 have hT:=Fg ok.i.v.g.t.s.v.g.p ok.k359 (D:=1) (k:=1) (i:=0) Aj Aj Aj
 rw [show pw 1 0=2#64 by decide,show BitVec.ofNat 64 (trI 1 1 0)=0#64 by decide] at hT
 have hP:=Na ok.i.v pres l
 unfold hB at *
 generalize BO.com=C1 at *
 generalize BP B3.f 13 0=R0 at *
 generalize [AY B3.f 0#64]=L0 at *
 simp only [Mc.v,Mc.h,B3,BO,mach,DM,Hd.v,AP,Ax,B4,CP] at hP ⊢
 refine Ab ok.k257 rfl fun x hx=>?_
 refine es 2000 ?_;(simp only [f257,An0,Cl.v,AJ,hst,hpos,Y5,acV,stZ,Ax,B4,CP,Mc.v,B3,BO,C7,DX,seval])
 refine BC (hT) ?_
 (simp only [BV,Y5,acV,stZ,Ax,B4,CP,seval])
 refine PX [0,1,2,3,4,5,6,7,8,9,10,11,12] [0,1,2,3,4,5,6,7,8,10,11,12] (hP) (by constructor <;> (try simp only [K0,Al,DN,seval]) <;> first | exact q1 | (intro j hj;rcases (show j=0 ∨ j=1 by omega) with rfl | rfl <;> simp only [Nat.one_ne_zero,C2,LY,seval])) ?_
 (simp only [Ld,Bx,Ba,Am,K0,Y5,acV,stZ,Ax,B4,CP,seval])
 refine Ap.mk hx [0,1,2,3,4,5,6,7,8,9,10,11,12,13,14,15,16,17] [] (Ah (.bool true) .nili) _ 18 Aj (by (simp only [DS,seval])) (by simp only [LV,BV,seval,LY]) ?_ ⟨rfl,rfl,rfl⟩
 simp only [K0,DN,Bx,Al,AU,Y5,acV,Ax,B4,CP,seval]
 intro j hj
 rcases (show j=0 ∨ j=1 by omega) with rfl | rfl <;> simp only [Nat.one_ne_zero,C2,LN,LP,V.ren,AM,A5,BJ,BT,seval,LY]
theorem Lo {M:Seat} (ok:OkHj M) (pres:List (Dg × Pr)) (l:List (Nat→BitVec 64)) (G:Gs) (hD:G.D=1) (hn:G.n=1) (hp:(G.c 0).pos=1#64) (hv:(G.c 0).val=BO.com) :
 Af M 124 [.ptr 0 [],.ptr 4 []] (G.H ++ hC pres l) 17 (Q3 (Ah .nils .nili) (G.H ++ hC pres l) 17):=by
 have hS:=UX ok.i.v ok.k359 pres l G hD hn hp hv
 have hP:=IB ok.i.v.g.t.s.v.g.p
 unfold hC at *
 generalize BO.com=C1 at *
 simp only [Gs.H,hD,hn,C4,Dc,AJ,Dj,Cl.v,BM,FC,Eo,Ax,B4,CP,Mc.v,B3,BO,mach,vwV,K0,DX] at hS ⊢
 refine Ab ok.i.k124 rfl fun x hx=>?_
 refine es 2000 ?_;(simp only [f124,Afn,LZ,seval])
 have z1:IntKind.i64.wrap 1=1:=rfl
 refine PX [0,1,2,3,4,5,6,7,8,9,10,11,12,13,14,15,16] [0,1,2,3,4,5,6,7,8,9,10,11,12,14,15,16] (hS) (by constructor <;> (try simp only [Al,DN,seval]) <;> first | exact q1 | (intro j hj;rcases (show j=0 ∨ j=1 by omega) with rfl | rfl <;> simp only [Nat.one_ne_zero,C2,LY,seval])) ?_
 (simp only [Dq,Bx,Ba,Am,z1,hp,seval])
 refine Au ?_
 refine es 2000 ?_
 (simp only [hp,z1,LZ,seval])
 refine Ai (hP) ?_
 (simp only [CI,z1,LZ,seval])
 refine Au ?_
 refine es 2000 ?_
 (simp only [z1,LZ,seval])
 refine Ap.mk hx [0,1,2,3,4,5,6,7,8,9,10,11,12,13,14,15,16] [] (Ah .nils .nili) _ 17 Aj (by (simp only [DS,seval])) (by simp only [LV,BV,seval,LY]) ?_ ⟨rfl,rfl,rfl⟩
 simp only [DN,Bx,Al,seval]
 intro j hj
 rcases (show j=0 ∨ j=1 by omega) with rfl | rfl <;> simp only [Nat.one_ne_zero,C2,LN,LP,V.ren,AM,A5,BJ,BT,seval,LY]
theorem Lp {M:Seat} (ok:OkHj M) (fn:GL M 257) (pres:List (Dg × Pr)) (l:List (Nat→BitVec 64)) (G:Gs) (hD:G.D=1) (hn:G.n=2) (hp:(G.c 0).pos=1#64) (hv:(G.c 0).val=BO.com) (hp1:(G.c 1).pos=2#64) (hv1:(G.c 1).val=d1 1#8) (hne:¬ BO.com=d1 1#8)
 (hr0:(G.c 0).par = -1) (hr1:(G.c 1).par=0) (hs1:(G.c 1).rs=false) (ht1:(G.c 1).st=false) :
 Af M 124 [.ptr 0 [],.ptr 4 []] (G.H ++ hC pres l) 17 (Q3 (Ah (.sl 17 [] 0 1 151) .nili) (G.H ++ hC pres l ++ [(17,.ar 151 1 fun _=>acV 1 true false Dg.zero (DM (BP B3.f 13 0) B3.h [AY B3.f 0#64] Pr.zero))]) 18):=by
 have hS:=Ug ok.i.v ok.k359 pres l G hD hn hp hv hp1 hv1 hne
 have hP:=IB ok.i.v.g.t.s.v.g.p
 have hP2:=Db ok.i.v.g.t.s.v.g.p (k:=1) (i:=0) Aj Aj
 rw [show pw 1 0=2#64 by decide] at hP2
 have hH:=MN ok 2 Aj 0 G.c (fun j=>decide (j=0)) hr0 rfl
 have hT:=Oo ok pres l 2 0 1 (G.c 1) ht1 hp1
 unfold hC hB at *
 generalize BO.com=C1 at *
 generalize BP B3.f 13 0=R0 at *
 generalize [AY B3.f 0#64]=L0 at *
 simp only [Gs.H,hD,hn,C4,Dc,AJ,Dj,Cl.v,BM,FC,Eo,Ax,B4,CP,Mc.v,Mc.h,B3,BO,mach,vwV,Y5,K0,DM,Hd.v,AP,acV,stZ,hp1,hr1,hs1,ht1,DX] at hS hT hH ⊢
 refine Ab ok.i.k124 rfl fun x hx=>?_
 refine es 2000 ?_;(simp only [f124,Afn,LZ,seval])
 have z1:IntKind.i64.wrap 1=1:=rfl
 have z2:IntKind.i64.wrap 2=2:=rfl
 refine PX [0,1,2,3,4,5,6,7,8,9,10,11,12,13,14,15,16] [0,1,2,3,4,5,6,7,8,9,10,11,12,14,15,16] (hS) (by constructor <;> (try simp only [Al,DN,seval]) <;> first | exact q1 | (intro j hj;rcases (show j=0 ∨ j=1 by omega) with rfl | rfl <;> simp only [Nat.one_ne_zero,C2,LY,seval])) ?_
 (simp only [Dq,Bx,Ba,Am,z1,hp,seval])
 refine Au ?_
 refine es 2000 ?_
 (simp only [hp,z1,LZ,seval])
 refine Ai (hP) ?_
 (simp only [CI,z1,LZ,seval])
 refine Au ?_
 refine es 2000 ?_
 (simp only [z1,z2,hp1,hr1,hs1,ht1,LZ,seval])
 refine Ai (hP2) ?_
 (simp only [CI,z1,z2,hp1,hr1,hs1,ht1,LZ,seval])
 refine PX [81,0,4,82,83] [81,82,83] (hH) (by constructor <;> (try simp only [Cm,dg,seval]) <;> first | exact q1 | (intro j hj;rcases (show j=0 ∨ j=1 by omega) with rfl | rfl <;> simp only [Nat.one_ne_zero,hp1,hr1,hs1,ht1,C2,LY,seval])) ?_
 (simp only [z1,z2,hp1,hr1,hs1,ht1,BA,seval])
 repeat refine sd ?_
 refine Ao2 (f:=257) fn rfl ?_
 refine PX [4,5,6,7,8,9,10,11,12,13,14,15,16,81,0,82,83,1713] [4,5,6,7,8,9,10,11,12,14,15,16,81,1713] (hT) (by constructor <;> (try simp only [Al,DN,seval]) <;> first | exact q1 | (intro j hj;rcases (show j=0 ∨ j=1 by omega) with rfl | rfl <;> simp only [Nat.one_ne_zero,C2,LY,seval])) ?_
 (simp only [Ld,Bx,Ba,Am,z1,z2,seval])
 refine Au ?_
 refine es 2000 ?_
 (simp only [z1,LZ,seval])
 refine Ap.mk hx [0,1,2,3,4,5,6,7,8,9,10,11,12,13,14,15,16,2369] [] (Ah (.sl 17 [] 0 1 151) .nili) _ 18 Aj (by (simp only [DS,seval])) (by simp only [LV,BV,seval,LY]) ?_ ⟨rfl,rfl,rfl⟩
 simp only [DN,Bx,Al,AU,seval]
 refine ⟨fun j hj=>?_,fun j hj=>?_⟩
 ·rcases (show j=0 ∨ j=1 by omega) with rfl | rfl <;> simp only [Nat.one_ne_zero,C2,LN,LP,V.ren,AM,A5,BJ,BT,seval,LY]
 ·obtain rfl:j=0:=Aa
  simp only [if_true,AU,Cm,seval]
theorem App:Jp (d1 1#8)=C5 8 (fun k=>if k=0 then 1 else 0) 32:=Cn 8 32 (fun k hk=>by
 rw [d1,Dg.at_mk' _ _ hk]
 split <;> rfl)
theorem ZI:Nat.beq (WB (1 <<< 120)) (C5 8 (fun k=>if k=0 then 1 else 0) 32)=false:=by kernel_rfl
theorem Aej:¬ BO.com=d1 1#8:=by
 intro h
 have h2:=ZI
 rw [← W7,← App,h,Nat.beq_refl] at h2
 cases h2
def hg0:Gs:=Gs.new 1 10#64 0#64 B3.com BO.com 0 0#64 (Jm 50#64 8) (VV 50#64 8) 0#64 0#64
def hg1:Gs:=hg0.mT 0 false (d1 1#8) 1 2#64 1#64
theorem Ad5:Zb 1#64=0:=Aj
theorem Ads:ixW 1#64=0:=Aj
theorem Afs:hg0.mE 0 false (d1 1#8) 1 2#64 1#64=none:=by
 unfold Gs.mE
 rw [if_neg Aj,if_neg Aj]
 rw [show (hg0.c (0:Int).toNat).pos=1#64 from rfl,Ad5,Ads]
 unfold mvE
 rw [if_neg Aj,if_neg Aj,if_neg Aj,if_neg,if_neg Aj,if_neg Aj,if_neg Aj,if_neg Aj,if_neg Aj]
 rintro ⟨j,_,h,_⟩
 exact absurd h (by show ¬ (-1:Int)=0;decide)
theorem An4:(hg1.c 1).pos=2#64:=by
 show anP (Zb 1#64) (ixW 1#64) false=2#64
 rw [Ad5,Ads];decide
theorem hgR:Rck 10#64 0#64:=⟨by decide,by decide,by decide⟩
structure OkHl (M:Seat):Prop where
 j:OkHj M
 f257:GL M 257
 k122:Av M 122 Aju=true
theorem Of {M:Seat} (ok:OkHl M) (hne:¬ BO.com=B3.com) (hd1:¬ BO.com=d1 1#8):Af M 122 [] [] 0 (Q3 (.bool true) [] 0):=by
 have okv:=ok.j.i.v
 have hLd:=Lv ok.j.i
 have hRi:=Ri ok.j.i 50#64 Aj (by intro n hn;rcases (show n=0 ∨ n=1 ∨ n=2 ∨ n=3 ∨ n=4 ∨ n=5 ∨ n=6 ∨ n=7 by omega) with rfl | rfl | rfl | rfl | rfl | rfl | rfl | rfl <;> decide)
 have hN:=Kd okv.a.r.n B3.f B3.g B3.pc B3.hl B3.xt (Gv 16).pres 1 Aj
 have hS:=OG okv.a 1
 have hA:=TJ okv.a (Gv 16).pres hL
 have hR:=PY ok.j.i 1 10#64 B3.com
 have hG:=QA okv.g.t.s.v 1 10#64 0#64 B3.com BO.com 0 0#64 (Jm 50#64 8) (VV 50#64 8) 0#64 0#64 Aj hgR Aj Aj Aj
 have hAc:=Lo ok.j (Gv 16).pres (oK BO.f hL 256) hg0 rfl rfl rfl rfl
 have hMv:=P9 okv.g hg0 (Aio 10#64 0#64 hgR 1 Aj _ _ 0 Aj _ _ _ _ _).w 0 false (d1 1#8) 1 2#64 1#64 Afs
 have hAd:=Lp ok.j ok.f257 (Gv 16).pres (oK BO.f hL 256) hg1 rfl rfl rfl rfl An4 rfl hd1 rfl rfl rfl rfl
 have hSt:=PH okv.o.q.okA okv.o.q.ok.toOkS
 simp only [AF,Jl] at hSt
 generalize (Gv 16).pres=pres at *
 have e0:hg0.H=[(0,C4 (1:Nat) 10#64 0#64 B3.com (.ptr 2 []) (.sl 1 [] 0 1 42)),(1,Dj 1 fun _=>clF BO.com (0:Nat) 0#64),(2,BM (fun j=>if j=0 then Jm 50#64 8 0 - 1#64 else Jm 50#64 8 j) (VV 50#64 8) 0#64 (.sl 3 [] 0 1 2) (0#64 + 1#64)),(3,FC 1 (fun _=>1#64) fun _=>false)]:=rfl
 have hL0:([AY B3.f 0#64]:List Pf).length=1:=rfl
 simp only [show hg0.mT 0 false (d1 1#8) 1 2#64 1#64=hg1 from rfl] at hMv
 generalize oK BO.f hL 256=l1 at *
 generalize hL=l0 at *
 have hpt:pt2=fun j=>if j=0 then B4 0#64 4 5 else B4 1#64 10 11:=funext fun _=>rfl
 rw [hpt] at hA
 rw [e0] at hAc hMv
 unfold hC at hAc hAd
 clear e0
 generalize hg1=G1 at *
 rw [show ((hg0.n:Nat):Int)=1 from rfl] at hMv
 generalize BO.com=C1 at *
 generalize B3.com=C0 at *
 generalize (fun j=>if j=0 then Jm 50#64 8 0 - 1#64 else Jm 50#64 8 j)=b0 at *
 generalize Jm 50#64 8=b1 at *
 generalize VV 50#64 8=sm at *
 generalize BP B3.f 13 0=R0 at *
 generalize [AY B3.f 0#64]=L0 at *
 simp only [Gs.H,Gs.H2,C4,Dc,AJ,Dj,clF,Cl.v,BM,FC,Eo,hC,K0,Ax,B4,CP,pt2,Mc.v,Mc.h,B3,BO,mach,DM,Hd.v,AP,acV,DX] at hLd hRi hN hS hA hR hG hAc hMv hAd
 have hne':(C0=C1)=False:=eq_false fun h=>hne h.symm
 refine Ab ok.k122 rfl fun x hx=>?_
 refine es 2000 ?_;(simp only [Aju,Ao4,LZ,seval])
 have zz:=@mach.eq_1;refine Ia (hLd) ?_
 (simp only [BA,seval])
 have zz:=@BM.eq_1;refine Ia (hRi) ?_
 (simp only [BA,seval])
 have zz:=CC @Ay @DW @Ce;refine Ia (hSt) ?_
 (simp only [Am,BA,seval])
 have zz:=@Ce;refine Df [16,192,193,194,196] [16,192,193] (hN) ?_
 (simp only [Dq,U2,Ba,Am,seval])
 have zz:=@Al;refine Df [208,211,209,210,212,213] [208,211,209,212] (hS) ?_
 (simp only [Dq,U2,Ba,seval])
 have zz:=CC @U2.eq_1 @Al @Ce;refine Df [208,211,209,210,212,213,214,194,215] [208,211,209,210,212,213,214] (hA) ?_
 (simp only [Dq,U2,Ba,Am,Bx,hne',decide_false,seval])
 repeat refine sd ?_
 have zz:=@dg.eq_1;refine Ng (hR) ?_
 (simp only [LZ,seval])
 have zz:=@dg.eq_1;refine QN [48] (hG) ?_
 (simp only [Dq,seval])
 refine PX [1057,1058,48,1056,208,211,544,210,212,213,545,546,214,194,215,547,548] [1057,1058,48,1056,208,211,544,210,212,213,545,546,214,215,547,548] (hAc) (by constructor <;> (try simp only [Al,DN,seval]) <;> first | exact q1 | (intro j hj;rcases (show j=0 ∨ j=1 by omega) with rfl | rfl <;> simp only [Nat.one_ne_zero,C2,LY,seval])) ?_
 (simp only [Dq,Ba,Am,Bx,seval])
 refine PX [1057,1058,48,1056] [1057,1058,48,1056] (hMv) (by constructor <;> (try simp only [dg,LY,seval]) <;> first | exact q1 | (intro j hj;rw [d1,Dg.at_mk' _ _ hj];split <;> simp only [LY,seval])) ?_
 (simp only [Dq,seval])
 refine PX [1057,1408,48,1409,208,211,544,210,212,213,545,546,214,194,215,547,548] [1057,1408,48,1409,208,211,544,210,212,213,545,546,214,215,547,548] (hAd) (by constructor <;> (try simp only [Al,DN,seval]) <;> first | exact q1 | (intro j hj;rcases (show j=0 ∨ j=1 by omega) with rfl | rfl <;> simp only [Nat.one_ne_zero,C2,LY,seval])) ?_
 (simp only [Ld,Ba,Am,Bx,seval])
 exact Ap.mkZ hx [] ⟨rfl,rfl,rfl⟩
end Mv
