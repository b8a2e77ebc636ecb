/- A part. -/
import Derived.Test.YtpcgkiecjakknaaGreatDoorFN
set_option linter.all false
set_option maxRecDepth 20000
set_option maxHeartbeats 16000000
namespace Mv
open Go
def Mc.com (m:Mc):Dg:=Ac7 m.f m.g m.pc m.hl m.xt
def CV (pres:List (Dg × Pr)) (m:Mc):Option Int × List Pf × Pr :=
 if m.hl=true then (none,[],Pr.zero) else if 8192#64≤m.pc then (none,[],Pr.zero)
 else ((nx (SP pres) m.h ⟨m.f,[],Pr.zero⟩).2.1,(nx (SP pres) m.h ⟨m.f,[],Pr.zero⟩).2.2.l,(nx (SP pres) m.h ⟨m.f,[],Pr.zero⟩).2.2.pre)
def tw:Nat→BitVec 64
 | 0=>QJ 26 1 0 0 0 1
 | 1=>QJ 1 2 2 1 0 0
 | 2=>QJ 28 0 2 2 0 40
 | 3=>QJ 29 0 0 0 0 1
 | _=>0#64
def tst (m:Mc):Mc :=
 if m.pc=0#64 then ⟨m.f,FI m.g 1 1#64,1#64,false,m.xt⟩
 else if m.pc=1#64 then ⟨m.f,FI m.g 2 (m.g 2 + m.g 1),2#64,false,m.xt⟩
 else if m.pc=2#64 then ⟨FI m.f (m.g 2 + 40#64).toNat (m.g 2),m.g,3#64,false,m.xt⟩
 else ⟨m.f,m.g,1#64,false,m.xt⟩
structure Cnt (m:Mc) (i:Nat):Prop where
 hl:m.hl=false
 pc:m.pc=0#64 ∨ m.pc=1#64 ∨ m.pc=2#64 ∨ m.pc=3#64
 w:∀ j,j < 4→m.f j=tw j
 g1:(m.g 1).toNat≤1
 g2:(m.g 2).toNat≤i
theorem PL {M:Seat} (ok:OkW M) (m:Mc) (i:Nat) (hi:i < 1000) (h:Cnt m i):Mz M m (tst m)∧Cnt (tst m) (i + 1)∧∀ pres,(CV pres m).1=none:=by
 obtain ⟨f,g,pc,hl,xt⟩:=m
 obtain ⟨rfl,hpc,hw,h1,h2⟩:=h
 dsimp only at hpc hw h1 h2
 have hg2:(g 2 + g 1).toNat≤i + 1:=by rw [BitVec.toNat_add];omega
 rcases hpc with rfl | rfl | rfl | rfl
 ·refine ⟨?_,⟨rfl,.inr (.inl rfl),hw,?_,?_⟩,fun pres=>?_⟩
  ·have hS:=Np ok.toOkI.toOkV f g 0#64 xt Am (tw 0) (hw 0 Am) Am Am
   rw [show pF (tw 0) 52=1 by decide,show BitVec.ofInt 64 (pN (tw 0))=1#64 by decide] at hS
   exact hS
  ·show (FI g 1 1#64 1).toNat≤1
   rw [FI,if_pos rfl];decide
  ·show (FI g 1 1#64 2).toNat≤i + 1
   rw [FI,if_neg Am];omega
  ·rw [CV,if_neg B5,if_neg (show ¬ 8192#64≤(_:BitVec 64) by dsimp only;decide)]
   show (Wy (SP pres) _ (f 0) ⟨f,[Da f 0#64],Pr.zero⟩).2.1=none
   rw [hw 0 Am,Wy,if_neg Am,if_neg Am,if_neg Am,if_pos Am]
 ·refine ⟨?_,⟨rfl,.inr (.inr (.inl rfl)),hw,?_,?_⟩,fun pres=>?_⟩
  ·have hS:=Lr ok f g 1#64 xt Am (tw 1) (hw 1 Am) Am Am
   rw [show pF (tw 1) 52=2 by decide,show pF (tw 1) 48=2 by decide,show pF (tw 1) 44=1 by decide] at hS
   exact hS
  ·show (FI g 2 (g 2 + g 1) 1).toNat≤1
   rw [FI,if_neg Am];exact h1
  ·show (FI g 2 (g 2 + g 1) 2).toNat≤i + 1
   rw [FI,if_pos rfl];exact hg2
  ·rw [CV,if_neg B5,if_neg (show ¬ 8192#64≤(_:BitVec 64) by dsimp only;decide)]
   show (Wy (SP pres) _ (f 1) ⟨f,[Da f 1#64],Pr.zero⟩).2.1=none
   rw [hw 1 Am,Wy,if_neg Am,if_neg Am,if_pos Am]
 ·have e40:(g 2 + 40#64).toNat=(g 2).toNat + 40:=by rw [BitVec.toNat_add];simp;omega
  have hlt:¬ 8192#64≤g 2 + 40#64:=by rw [BitVec.le_def,e40];simp;omega
  refine ⟨?_,⟨rfl,.inr (.inr (.inr rfl)),fun j hj=>?_,h1,?_⟩,fun pres=>?_⟩
  ·have hS:=Jl ok.toOkI.toOkV f g 2#64 xt Am (tw 2) (hw 2 Am) Am Am (g 2 + 40#64) (by rw [show pF (tw 2) 48=2 by decide,show BitVec.ofInt 64 (pN (tw 2))=40#64 by decide]) hlt
   rw [show pF (tw 2) 44=2 by decide] at hS
   exact hS
  ·show FI f (g 2 + 40#64).toNat (g 2) j=tw j
   rw [FI,if_neg Aa];exact hw j hj
  ·show (g 2).toNat≤i + 1
   omega
  ·rw [CV,if_neg B5,if_neg (show ¬ 8192#64≤(_:BitVec 64) by dsimp only;decide)]
   show (Wy (SP pres) _ (f 2) ⟨f,[Da f 2#64],Pr.zero⟩).2.1=none
   rw [hw 2 Am,Wy,if_neg Am,if_neg Am,if_neg Am,if_neg Am,if_pos Am]
   rw [show pF (tw 2) 48=2 by decide,show BitVec.ofInt 64 (pN (tw 2))=40#64 by decide]
   simp only [Mc.h,hlt,if_false]
   rw [if_neg (show ¬ CP (tw 2)=27 by decide)]
   rfl
 ·refine ⟨?_,⟨rfl,.inr (.inl rfl),hw,h1,?_⟩,fun pres=>?_⟩
  ·have hS:=Kn ok.toOkI.toOkV 29 (.inl rfl) f g 3#64 xt Am (tw 3) (hw 3 Am) Am Am
   rw [show BitVec.ofInt 64 (pN (tw 3))=1#64 by decide] at hS
   exact hS
  ·show (g 2).toNat≤i + 1
   omega
  ·rw [CV,if_neg B5,if_neg (show ¬ 8192#64≤(_:BitVec 64) by dsimp only;decide)]
   show (Wy (SP pres) _ (f 3) ⟨f,[Da f 3#64],Pr.zero⟩).2.1=none
   rw [hw 3 Am,Wy,if_neg Am,if_neg Am,if_neg Am,if_neg Am,if_neg Am,if_pos Am]
def tm:Nat→Mc
 | 0=>⟨YH 4 tw,fun _=>0#64,0#64,false,0#64⟩
 | i + 1=>tst (tm i)
theorem Pk {M:Seat} (ok:OkW M):∀ i,i < 1000→Cnt (tm i) i
 | 0,_=>⟨rfl,.inl rfl,fun j hj=>if_pos hj,by decide,by decide⟩
 | i + 1,h=>(PL ok (tm i) i Aa (Pk ok i Aa)).2.1
variable {M:Seat}
def op4 (w:BitVec 64):Prop:=isI w=true∧(CP w=1 ∨ CP w=26 ∨ CP w=28 ∨ CP w=29)
theorem Anw (ok:OkQ M) (I:MemI M) (g:Nat→BitVec 64) (pc:BitVec 64) (xt:BitVec 64) (s:I.σ) (hz:I.Z s) (hpc:¬ 8192#64≤pc) (w:BitVec 64) (hw:(I.mm.rd s pc).1=w) (he:(I.mm.rd s pc).2.1=none) (s1:I.σ) (hs:(I.mm.rd s pc).2.2=s1) (hop:CP w=1) (h2:w >>> 32 &&& 255#64=0#64) :
 Ag M 241 [AM g pc false xt,.ifc I.t (.ptr 0 [])] (I.E0 s) I.k0 (Q3 (Ah (AM (FI g (pF w 52) (g (pF w 48) + g (pF w 44))) (pc + 1#64) false xt) (B7 (none))) (I.E (s1) I.k0) (I.k0 + 1)):=by
 refine Ab ok.okN.k241 rfl fun x hx=>?_
 refine Bm.up (N':=32) F9 ?_
 have a1:=A5 w 52
 have a2:=A5 w 48
 have a3:=A5 w 44
 have a4:=A5 w 40
 have hL:I.len s1≤100:=EY
 have c1:((1:Nat):Int)=1:=rfl
 refine es 2000 ?_;(simp only [M3,I.hdel0,hpc,seval])
 refine I.dynR0 [_,_] hz hpc B4 ?_
 rw [hw,he,hs]
 (simp only [Ij,seval])
 have zz:=@BB.eq_1;refine Ce (AO ok.ok.toOkV w Aa h2) ?_
 (simp only [Mx,hop,c1,I.idsE,seval])
 repeat refine sd ?_
 refine Bq (Nl ok.ok.toOkW (g (pF w 48)) (g (pF w 44)) (g (pF w 40))) ?_
 (simp only [AH,I.idsE,seval])
 repeat refine sd ?_
 exact I.ret [_,_] (q:=I.k0) ⟨Nat.le_refl _,by have:=I.hk;omega⟩ hx Am B4 ⟨rfl,rfl,rfl⟩ (by (simp only [E9,seval])) (by (simp only [PJ,seval]))
theorem Al3 (ok:OkQ M) (I:MemI M) (h:Hd) (s:I.σ) (hz:I.Z s) (hl:h.hl=false) (hpc:¬ 8192#64≤h.pc) (h4:(I.mm.rd s h.pc).2.1=none→op4 (I.mm.rd s h.pc).1) (q:Hd × Option Int × I.σ) (hq:nx I.mm h s=q) :
 Ag M 241 [h.v,.ifc I.t (.ptr 0 [])] (I.E0 s) I.k0 (Q3 (Ah q.1.v (B7 q.2.1)) (I.E q.2.2 I.k0) (I.k0 + 1)):=by
 obtain ⟨g,pc,hl',xt⟩:=h
 dsimp only at hl hpc h4
 subst hl
 rw [nx] at hq
 cases he:(I.mm.rd s pc).2.1 with
 | some e =>
   have h0:=P1 ok I g pc xt s hz hpc e he
   dsimp only at hq
   rw [he] at hq
   subst hq
   exact h0
 | none =>
   have h4:=h4 he
   dsimp only at hq
   rw [he] at hq
   dsimp only at hq
   generalize hw:(I.mm.rd s pc).1=w at hq h4
   generalize hs:(I.mm.rd s pc).2.2=s1 at hq
   unfold Wy at hq
   obtain ⟨q0,h4⟩:=h4
   obtain ⟨-,h2⟩:=(QK w).1 q0
   rw [if_neg (by rw [q0];decide),if_neg Aa] at hq
   rcases h4 with q1 | q1 | q1 | q1
   ·rw [if_pos Aa] at hq;subst hq
    rw [q1]
    exact Anw ok I g pc xt s hz hpc w hw he s1 hs q1 h2
   ·rw [if_neg Aa,if_pos q1] at hq;subst hq
    exact RH ok I g pc xt s hz hpc w hw he s1 hs q1 h2
   ·rw [if_neg Aa,if_neg Aa,if_pos (.inr q1)] at hq
    by_cases q5:8192#64≤g (pF w 48) + BitVec.ofInt 64 (pN w)
    ·rw [if_pos q5] at hq;subst hq
     exact OC ok I g pc xt s hz hpc w hw he s1 hs q1 h2 _ rfl q5
    rw [if_neg q5,if_neg Aa] at hq;subst hq
    dsimp only
    cases he2:(I.mm.wr s1 (g (pF w 48) + BitVec.ofInt 64 (pN w)) (g (pF w 44))).1 with
    | none=>exact RB ok I g pc xt s hz hpc w hw he s1 hs q1 h2 _ rfl q5 he2
    | some e=>exact Oo ok I g pc xt s hz hpc w hw he s1 hs q1 h2 _ rfl q5 e he2
   ·rw [if_neg Aa,if_neg Aa,if_neg Aa,if_pos Aa] at hq;subst hq
    exact Oc ok I g pc xt s hz hpc w hw he s1 hs (CP w) Aa rfl h2
theorem Ao2 (ok:OkOs M) (f g:Nat→BitVec 64) (pc xt:BitVec 64) (hpc:¬ 8192#64≤pc) (h4:op4 (f pc.toNat)) (pres:List (Dg × Pr)) (h1:Hd) (s1:Ps) (hq:nx (SP pres) ⟨g,pc,false,xt⟩ ⟨f,[],Pr.zero⟩=(h1,none,s1)) :
 Ag M 97 [.ptr 0 [],.ptr 1 []] [(0,A3 f g pc false xt),(1,Kt .nils),(2,BR Bk Pr.zero pres)] 5
  (Q3 (Yb ⟨f,g,pc,false,xt⟩ none s1.l s1.pre) [(0,A3 f g pc false xt),(1,Kt .nils),(2,BR Bk Pr.zero pres)] 5):=by
 refine Ab ok.k97 rfl fun x hx=>?_
 obtain ⟨g1,pc1,hl1,xt1⟩:=h1
 obtain ⟨f1,l1,pre1⟩:=s1
 have hN:Ag M 241 [AM g pc false xt,.ifc 422 (.ptr 0 [])] [(0,GL .nils Pr.zero),(1,A3 f g pc false xt),(2,stP .nils),(3,BR Bk Pr.zero pres)] 6 (Q3 (Ah (AM g1 pc1 hl1 xt1) (B7 none)) [(0,GL (.sl 6 [] 0 l1.length 2) pre1),(1,A3 f1 g pc false xt),(2,stP .nils),(3,BR Bk Pr.zero pres),(6,.ar 2 l1.length (HC l1))] (6 + 1)) :=
  Al3 ok.q (Acq ok.q.okA ok.q.ok ok.p g pc false xt pres 0) ⟨g,pc,false,xt⟩ ⟨f,[],Pr.zero⟩ rfl rfl hpc (fun _=>h4) _ hq
 refine es 2000 ?_;(simp only [f97,c97,LZ,seval])
 have zz:=@A3.eq_1;refine Kb (Hj ok.q.okA f g pc false xt) ?_
 (simp only [BH,Zl,LZ,seval])
 have zz:=Bb @A3.eq_1 @AM.eq_1;refine Ce (Ft ok.d f g pc false xt) ?_
 (simp only [AH,AM,seval])
 have zz:=Bb @A3.eq_1 @dg.eq_1;refine Ce (El ok.q.okA f g pc false xt) ?_
 (simp only [AH,seval])
 have zz:=C4 Zz @Kt.eq_1 @J3;refine Bw [197,149,1,2,3,4] [197,149,1,2] (hN) ?_
 (simp only [Oh,Zz,B0,BH,seval])
 refine Ar.mk hx [0,1,2,3,4] [533] (Yb ⟨f,g,pc,false,xt⟩ none l1 pre1) [(0,A3 f g pc false xt),(1,Kt .nils),(2,BR Bk Pr.zero pres)] 5 Am (by (simp only [LV,EE,seval])) ?_ ?_ ⟨rfl,rfl,rfl⟩
 ·simp only [LV,Lbm,NC,dg,Fz,seval]
  refine ⟨by rfl,fun i hi=>?_⟩
  try rw [Nat.zero_add]
  exact Q5 _ _ _ _
 ·simp only [Kt,Fz,seval]
theorem Amy (ok:OkOs M) (claim root:Dg) (g:Nat→BitVec 64) (pc xt:BitVec 64) (p:Pf) (l:List Pf) (pre:Pr) (h4:op4 p.v) :
 Ag M 98 [dg claim,BI root ⟨g,pc,false,xt⟩ (p :: l) pre] [] 0 (Q3 (Ah (dg (vfy claim root ⟨g,pc,false,xt⟩ (p :: l) pre).1) (B7 (vfy claim root ⟨g,pc,false,xt⟩ (p :: l) pre).2)) [] 0):=by
 unfold vfy
 by_cases hc:Ch root (DT g pc false xt)=claim
 ·rw [if_neg (fun h=>h hc)]
  subst hc
  rw [if_neg B5]
  by_cases hpc:8192#64≤pc
  ·rw [if_pos hpc]
   exact Jq ok root g pc false xt (p :: l) pre g pc true Bn none ⟨root,p :: l,pre⟩ (Ji ok.q (ckI ok.q.okA ok.q.ok.toOkH ok.c) g pc xt ⟨root,p :: l,pre⟩ hpc) _ rfl
  ·rw [if_neg hpc]
   generalize hq:nx ckM ⟨g,pc,false,xt⟩ ⟨root,p :: l,pre⟩=q
   obtain ⟨⟨g1,pc1,hl1,xt1⟩,e,c1⟩:=q
   exact Jq ok root g pc false xt (p :: l) pre g1 pc1 hl1 xt1 e c1 (Al3 ok.q (ckI ok.q.okA ok.q.ok.toOkH ok.c) ⟨g,pc,false,xt⟩ ⟨root,p :: l,pre⟩ trivial rfl hpc (fun _=>h4) _ hq) _ rfl
 ·rw [if_pos hc]
  exact Pt ok claim root g pc false xt (p :: l) pre hc
theorem Apa (okW:OkW M) (i:Nat) (hi:i < 1000):op4 ((tm i).f (tm i).pc.toNat)∧¬ 8192#64≤(tm i).pc:=by
 have hc:=Pk okW i hi
 rcases hc.pc with h | h | h | h
 all_goals
  rw [h]
  refine ⟨?_,by decide⟩
 ·rw [show (tm i).f (0#64:BitVec 64).toNat=tw 0 from hc.w 0 Am];exact ⟨by decide,.inr (.inl Am)⟩
 ·rw [show (tm i).f (1#64:BitVec 64).toNat=tw 1 from hc.w 1 Am];exact ⟨by decide,.inl Am⟩
 ·rw [show (tm i).f (2#64:BitVec 64).toNat=tw 2 from hc.w 2 Am];exact ⟨by decide,.inr (.inr (.inl Am))⟩
 ·rw [show (tm i).f (3#64:BitVec 64).toNat=tw 3 from hc.w 3 Am];exact ⟨by decide,.inr (.inr (.inr Am))⟩
theorem Apc (pres:List (Dg × Pr)) (h:Hd) (hpc:¬ 8192#64≤h.pc) (f:Nat→BitVec 64) (h4:op4 (f h.pc.toNat)) (pre0:Pr) (h':Hd) (s':Ps)
 (hn:nx (SP pres) h ⟨f,[],pre0⟩=(h',none,s')):∃ ext:List Pf,s'.l=Da f h.pc :: ext∧(ext=[] ∨ ∃ a,ext=[Da f a])∧nx ckM h ⟨Dp f 13 0,s'.l,s'.pre⟩=(h',none,⟨Dp s'.f 13 0,[],s'.pre⟩):=by
 have ha:=pfl _ hpc
 have hk:∀ (r:List Pf) (pre:Pr),ckM.rd ⟨Dp f 13 0,Da f h.pc :: r,pre⟩ h.pc=(f h.pc.toNat,none,⟨Dp f 13 0,r,pre⟩):=fun r pre=>by
  rw [show ckM.rd=Zv from rfl]
  simp only [Zv,Da,Yk,Lb9,Amq f _ ha]
 have e0:(SP pres).rd ⟨f,[],pre0⟩ h.pc=(f h.pc.toNat,none,⟨f,[Da f h.pc],pre0⟩):=rfl
 rw [nx,e0] at hn
 dsimp only at hn
 have key:∀ ext:List Pf,s'.l=Da f h.pc :: ext→(ext=[] ∨ ∃ a,ext=[Da f a])→Wy ckM h (f h.pc.toNat) ⟨Dp f 13 0,ext,s'.pre⟩=(h',none,⟨Dp s'.f 13 0,[],s'.pre⟩)→∃ ext:List Pf,s'.l=Da f h.pc :: ext∧(ext=[] ∨ ∃ a,ext=[Da f a])∧nx ckM h ⟨Dp f 13 0,s'.l,s'.pre⟩=(h',none,⟨Dp s'.f 13 0,[],s'.pre⟩):=fun ext he hx hz=>by
  refine ⟨ext,he,hx,?_⟩
  rw [nx,he,hk]
  exact hz
 obtain ⟨q0,h4⟩:=h4
 generalize f h.pc.toNat=w at *
 have q0':¬ isI w=false:=by rw [q0];decide
 have q1:¬ CP w=0:=Aa
 unfold Wy at hn
 rw [if_neg q0',if_neg q1] at hn
 by_cases q2:CP w < 26
 ·rw [if_pos q2] at hn
  cases hn
  exact key [] rfl (.inl rfl) (by rw [Wy,if_neg q0',if_neg q1,if_pos q2])
 rw [if_neg q2] at hn
 by_cases q3:CP w=26
 ·rw [if_pos q3] at hn
  cases hn
  exact key [] rfl (.inl rfl) (by rw [Wy,if_neg q0',if_neg q1,if_neg q2,if_pos q3])
 rw [if_neg q3] at hn
 by_cases q4:CP w=27 ∨ CP w=28
 ·have q6:¬ CP w=27:=Aa
  rw [if_pos q4] at hn
  by_cases q5:8192#64≤h.g (pF w 48) + BitVec.ofInt 64 (pN w)
  ·rw [if_pos q5] at hn
   cases hn
   exact key [] rfl (.inl rfl) (by rw [Wy,if_neg q0',if_neg q1,if_neg q2,if_neg q3,if_pos q4,if_pos q5])
  rw [if_neg q5,if_neg q6] at hn
  cases hn
  refine key [Da f _] rfl (.inr ⟨_,rfl⟩) ?_
  rw [Wy,if_neg q0',if_neg q1,if_neg q2,if_neg q3,if_pos q4,if_neg q5,if_neg q6]
  rw [show ckM.wr=ckW from rfl]
  simp only [ckW,Da,Yk,Lb9,Amq f _ (pfl _ q5),Ao1 f _ (pfl _ q5)]
 rw [if_neg q4,if_pos Aa] at hn
 cases hn
 exact key [] rfl (.inl rfl) (by rw [Wy,if_neg q0',if_neg q1,if_neg q2,if_neg q3,if_neg q4,if_pos Aa])
structure OkTd (M:Seat):Prop where
 o:OkOs M
 w:OkW M
 k128:Au M 128 Ain=true
def CY (s:Dg) (vs st:V):V:=.st 34 (.fcons 0 (dg s) (.fcons 32 vs (.fcons 33 st .fnil)))
theorem H5 {M:Seat} (ok:OkTd M) (d:Nat) (hd:1≤d∧d≤4):Ag M 128 [.int .i64 d] [] 0 (Q3 (Ah (CY (tm 0).com (.lst 32 (2 ^ d) fun i=>dg (tm (i + 1)).com) (.lst 116 (2 ^ d) fun i=>BI (Dp (tm i).f 13 0) (tm i).h (CV (C7 16).pres (tm i)).2.1 (CV (C7 16).pres (tm i)).2.2)) (.bool true)) [] 0):=by
 have hT:∀ i,i < 16→Mz M (tm i) (tm (i + 1)):=fun i hi=>(PL ok.w (tm i) i Aa (Pk ok.w i Aa)).1
 have hP:∀ i,i < 16→Ag M 97 [.ptr 0 [],.ptr 1 []] [(0,(tm i).v),(1,Kt .nils),(2,BR Bk Pr.zero (C7 16).pres)] 5 (Q3 (Yb (tm i) none (CV (C7 16).pres (tm i)).2.1 (CV (C7 16).pres (tm i)).2.2) [(0,(tm i).v),(1,Kt .nils),(2,BR Bk Pr.zero (C7 16).pres)] 5):=fun i hi=>by
  have he:=(PL ok.w (tm i) i Aa (Pk ok.w i Aa)).2.2 (C7 16).pres
  have hl:=(Pk ok.w i Aa).hl
  obtain ⟨h4,hpc⟩:=Apa ok.w i Aa
  generalize (C7 16).pres=pres at *
  generalize tm i=m at *
  obtain ⟨f,g,pc,hl,xt⟩:=m
  dsimp only at hl hpc h4
  subst hl
  unfold CV at he ⊢
  simp only [SR,hpc] at he ⊢
  generalize hq:nx (SP pres) (⟨f,g,pc,false,xt⟩:Mc).h ⟨f,[],Pr.zero⟩=r at *
  obtain ⟨h1,e,s1⟩:=r
  have he:e=none:=he
  subst he
  exact Ao2 ok.o f g pc xt hpc h4 pres h1 s1 hq
 have hO:∀ i,Ag M 54 [.imm (A3 (tm i).f (tm i).g (tm i).pc (tm i).hl (tm i).xt)] [] 0 (Q3 (Ah (dg (tm i).com) .nili) [] 0):=fun i=>X4 ok.o.q.okA ok.o.d (tm i).f (tm i).g (tm i).pc (tm i).hl (tm i).xt
 have hv:∀ m:Mc,m.v=A3 m.f m.g m.pc m.hl m.xt:=fun _=>rfl
 have e0:(tm 0).v=A3 (YH 4 tw) (fun _=>0#64) 0#64 false 0#64:=rfl
 obtain ⟨L,P,hL,hPr⟩:∃ (L:Nat→List Pf) (P:Nat→Pr),(∀ i,(CV (C7 16).pres (tm i)).2.1=L i)∧∀ i,(CV (C7 16).pres (tm i)).2.2=P i:=⟨_,_,fun _=>rfl,fun _=>rfl⟩
 obtain ⟨C,hC⟩:∃ C:Nat→Dg,∀ i,(tm i).com=C i:=⟨_,fun _=>rfl⟩
 obtain ⟨R,hR⟩:∃ R:Nat→Dg,∀ i,Dp (tm i).f 13 0=R i:=⟨_,fun _=>rfl⟩
 simp only [Yb,hL,hPr,hR] at hP
 simp only [hC] at hO
 simp only [hL,hPr,hC,hR]
 clear hL hPr hC hR
 generalize tm=T at *
 generalize hK:2 ^ d=K
 have hKn:1≤K∧K≤16:=by
  rcases (show d=1 ∨ d=2 ∨ d=3 ∨ d=4 by omega) with rfl | rfl | rfl | rfl <;> subst hK <;> decide
 have c0:=Fg ok.w.toOkI 26 1 0 0 0 1 Am Am Am Am Am Am
 have c1:=Fg ok.w.toOkI 1 2 2 1 0 0 Am Am Am Am Am Am
 have c2:=Fg ok.w.toOkI 28 0 2 2 0 40 Am Am Am Am Am Am
 have c3:=Fg ok.w.toOkI 29 0 0 0 0 1 Am Am Am Am Am Am
 simp only [Int.natCast_zero,Int.cast_ofNat_Int] at c0 c1 c2 c3
 have z0:IntKind.i64.wrap 0=0:=rfl
 have z1:IntKind.i64.wrap 1=1:=rfl
 have z2:IntKind.i64.wrap 2=2:=rfl
 have z3:IntKind.i64.wrap 3=3:=rfl
 have z4:IntKind.i64.wrap 4=4:=rfl
 have t0:tw 0=QJ 26 1 0 0 0 1:=rfl
 generalize QJ 26 1 0 0 0 1=q0 at *
 have t1:tw 1=QJ 1 2 2 1 0 0:=rfl
 generalize QJ 1 2 2 1 0 0=q1 at *
 have t2:tw 2=QJ 28 0 2 2 0 40:=rfl
 generalize QJ 28 0 2 2 0 40=q2 at *
 have t3:tw 3=QJ 29 0 0 0 0 1:=rfl
 generalize QJ 29 0 0 0 0 1=q3 at *
 have hLd:=Oq ok.o.q.okA 4 Am tw
 have zK:IntKind.i64.wrap (1 * 2 ^ min d 64)=(K:Int):=by
  rcases (show d=1 ∨ d=2 ∨ d=3 ∨ d=4 by omega) with rfl | rfl | rfl | rfl <;> subst hK <;> rfl
 have hN:=Tc ok.o.q.okA ok.o.q.ok.toOkS
 generalize C7 16=w at *
 refine Ab ok.k128 rfl fun x hx=>?_
 refine es 2000 ?_;(simp only [Ain,Ah3,z0,z1,LZ,seval])
 refine AW ?_
 refine es 2000 ?_
 (simp only [z0,z1,z2,z3,z4,LZ,seval])
 refine Ak (c0) ?_
 (simp only [AH,z0,z1,z2,z3,z4,seval])
 repeat refine sd ?_
 refine AW ?_
 refine es 2000 ?_
 (simp only [z0,z1,z2,z3,z4,LZ,seval])
 refine Ak (c1) ?_
 (simp only [AH,z0,z1,z2,z3,z4,seval])
 repeat refine sd ?_
 refine AW ?_
 refine es 2000 ?_
 (simp only [z0,z1,z2,z3,z4,LZ,seval])
 refine Ak (c2) ?_
 (simp only [AH,z0,z1,z2,z3,z4,seval])
 repeat refine sd ?_
 refine AW ?_
 refine es 2000 ?_
 (simp only [z0,z1,z2,z3,z4,LZ,seval])
 refine Ak (c3) ?_
 (simp only [AH,z0,z1,z2,z3,z4,seval])
 repeat refine sd ?_
 refine AW ?_
 refine es 2000 ?_
 (simp only [z0,z1,z2,z3,z4,LZ,seval])
 refine cfK (hLd) (by (try simp only [A3,LY,seval]) <;> first | exact q1 | ((intro i hi;rcases (show i=0 ∨ i=1 ∨ i=2 ∨ i=3 by omega) with rfl | rfl | rfl | rfl <;> simp only [t0,t1,t2,t3,LY,seval]))) (by simp only [A3,LX]) ?_
 (simp only [AH,BH,seval])
 have zz:=GM @EZ.eq_1 Zm @Du @RP @J3;refine Kb (hN) ?_
 rw [← e0]
 (simp only [EZ,Zm,Iu,hv,EE,seval])
 have zz:=Bb @A3.eq_1 @dg.eq_1;refine Ce (hO 0) ?_
 (simp only [NC,zK,seval])
 refine ⟨by omega,?_⟩
 have q0:((0:Int) < (K:Int))=True:=eq_true Aa
 have hS0:=hT 0 Am
 have hP0:=hP 0 Am
 have hO1:=hO 1
 simp only [Mz,hv] at hS0
 simp only [hv,BI,Mc.h,Hd.v,AM] at hP0
 refine AW ?_
 refine es 2000 ?_
 (simp only [q0,LZ,seval])
 have zz:=C4 @Kt.eq_1 @A3.eq_1 @J3;refine Bw [2240,2336,2337,2338,2340] [2240,2336,2337] (hP0) ?_
 (simp only [Oh,Kt,hv,BH,seval])
 have zz:=@A3.eq_1;refine Om [2240,2336] [2240] (hS0) ?_
 (simp only [BH,EE,seval])
 have zz:=Bb @A3.eq_1 @dg.eq_1;refine Ce (hO1) ?_
 (simp only [NC,Nat.testBit,List.map_nil,List.map_cons,B3,seval])
 have z11:IntKind.i64.wrap 1=((1:Nat):Int):=rfl
 refine An (σ:=Nat) (fun i=>1≤i∧i≤K) (fun i=>fr 119 [(2,.ptr 9 []),(9,.ptr 5 []),(10,.nili),(11,.ptr 0 []),(13,.ptr 6 []),(77,.int .i64 K),(78,.int .i64 i)])
  (fun i=>EZ w .nils [] ++ [(5,(T i).v),(6,CY (C 0) (.sl 7 [] 0 i 32) (.sl 8 [] 0 i 116)),(7,.ar 32 i fun j=>dg (C (j + 1))),(8,.ar 116 i fun j=>BI (R j) (T j).h (L j) (P j)),(9,CY Dg.zero .nils .nils)]) (fun _=>10) (fun i=>K - i) 1 ⟨by omega,hKn.1⟩ ?_ ?_
 ·refine Ao.fr [2336,2337,2338,2339,2340,2240,2688,3504,3584,0] [] hx AQ Am ?_ ?_
  ·simp only [z11,LY,seval]
  ·simp only [La2,Lbx,hv,CY,BI,Mc.h,Hd.v,AM,Be,seval]
   (repeat' apply And.intro)
   all_goals
    intro j hj
    obtain rfl:j=0:=Aa
    simp only [if_true,Be,Fz,seval]
 ·rintro i ⟨h1,hi⟩
  refine es 2000 ?_
  by_cases hiK:i=K
  ·subst hiK
   have w0:((i:Int) < (i:Int))=False:=eq_false Aa
   (simp only [w0,La2,hv,CY,LZ,seval])
   repeat refine sd ?_
   refine Ar.mk hx [] [7,8] (Ah (CY (C 0) (.lst 32 i fun j=>dg (C (j + 1))) (.lst 116 i fun j=>BI (R j) (T j).h (L j) (P j))) (.bool true)) [] 0 Am (by (simp only [CU,seval])) ?_ trivial ⟨rfl,rfl,rfl⟩
   simp only [LV,AH,CY,BI,Mc.h,Hd.v,AM,Be,dg,Fz,seval]
   exact ⟨rfl,rfl⟩
  ·have w0:((i:Int) < (K:Int))=True:=eq_true Aa
   have z0:IntKind.i64.wrap ((i:Int) + 1)=((i + 1:Nat):Int):=AZ
   have hS0:=hT i Aa
   have hP0:=hP i Aa
   have hO1:=hO (i + 1)
   simp only [Mz,hv] at hS0
   simp only [hv,BI,Mc.h,Hd.v,AM] at hP0
   (simp only [w0,La2,hv,CY,LZ,seval])
   have zz:=C4 @Kt.eq_1 @A3.eq_1 @J3;refine Bw [5,0,1,2,4] [5,0,1] (hP0) ?_
   (simp only [Oh,Kt,hv,BH,seval])
   have zz:=@A3.eq_1;refine Om [5,0] [5] (hS0) ?_
   (simp only [BH,EE,seval])
   have zz:=Bb @A3.eq_1 @dg.eq_1;refine Ce (hO1) ?_
   (simp only [NC,z0,BI,Mc.h,Hd.v,AM,Nat.testBit,List.map_nil,List.map_cons,B3,seval])
   repeat refine sd ?_
   refine ⟨i + 1,by omega,by omega,by omega,?_⟩
   refine Ao.fr [0,1,2,3,4,5,6,746,826,9] [] hx AQ Am ?_ ?_
   ·simp only [LY,seval]
   ·simp only [La2,Lbx,hv,CY,BI,Mc.h,Hd.v,AM,Be,seval]
    (repeat' apply And.intro)
    all_goals
     intro j hj
     by_cases h:j < i
     ·simp only [h,if_true,Be,Fz,seval]
     ·obtain rfl:j=i:=Aa
      simp only [Nat.lt_irrefl,Nat.sub_self,CL,Be,Fz,seval]
def clF (v:Dg) (p:Int) (t:BitVec 64):Cl:=⟨-1,1#64,v,p,0,0#64,t,false,false,false,p⟩
def Gs.new (D:Nat) (l g:BitVec 64) (s v:Dg) (p:Nat) (t:BitVec 64) (b:Nat→BitVec 64) (i o k:BitVec 64):Gs:=⟨D,l,g,s,1,fun _=>clF v p t,fun j=>if j=p then b p - 1#64 else b j,i,o,k + 1#64,fun _=>1#64,fun _=>false⟩
theorem O4 {M:Seat} (ok:OkMv M) (D:Nat) (l g:BitVec 64) (s v:Dg) (p:Nat) (t:BitVec 64) (b:Nat→BitVec 64) (i o k:BitVec 64) (hD:1≤D∧D≤20) (hr:Oa l g) (hp:p < 8) (ht:¬ 1099511627776#64 < t) (hb:¬ b p < 1#64) :
 Ag M 112 [Al D l g s,.ptr 0 [],.int .i64 p,dg v,W t] [(0,Aq b i o .nils k)] 1 (Q3 (Ah (.ptr 2 []) .nili) [(0,Aq (fun j=>if j=p then b p - 1#64 else b j) i o (.sl 1 [] 0 1 2) (k + 1#64)),(1,A7 1 (fun _=>1#64) (fun _=>false)),(2,Ai D l g s (.ptr 0 []) (.sl 3 [] 0 1 42)),(3,Ap 1 fun _=>clF v p t)] 4):=by
 have hB:=Dh ok.g.n 0
 rw [show (if (0:Int) < 0 then 0#64 else BitVec.ofInt 64 0 + 1#64)=1#64 from rfl] at hB
 have hL:=J0 ok.g.l b i o k p hp 1#64 hb
 have hC:=Fc ok l g hr
 have d0:((D:Int) < 1)=False:=eq_false Aa
 have d1:((20:Int) < (D:Int))=False:=eq_false Aa
 refine Ab ok.g.n.k112 rfl fun x hx=>?_
 refine es 2000 ?_;(simp only [ZM,Acm,Al,Ac,d0,d1,LZ,seval])
 have zz:=@Ac.eq_1;refine Ce (hC) ?_
 (simp only [ht,LZ,seval])
 refine Ak (hB) ?_
 (simp only [LZ,seval])
 have zz:=Bb @Aq.eq_1 @A4.eq_1;refine SM [0] (hL) ?_
 (simp only [AH,Aq,A4,seval])
 refine Ar.mk hx [0,465,817,785] [] (Ah (.ptr 2 []) .nili) _ 4 Am (by (simp only [CU,seval])) (by simp only [LV,Ah,LY,seval]) ?_ ⟨rfl,rfl,rfl⟩
 simp only [Aq,A7,A4,Ap,Ai,Al,Ac,clF,Cl.v,dg,LY,seval,implies_true]
 intro j hj
 obtain rfl:j=0:=Aa
 simp only [if_true,LY,seval,implies_true]
def otD (n:Int):Dg:=Dg.mk' fun j=>if j=2 then BitVec.ofInt 8 (n.fdiv (2 ^ min 8 64)) else if j=1 then 7#8 else if j=0 then BitVec.ofInt 8 n else 0#8
def EI (K:Nat) (C:Nat→Dg) (n:Int):Dg:=if 0≤n∧n < K then C n.toNat else otD n
structure OkTv (M:Seat):Prop where
 k129:Au M 129 XP=true
theorem FN {M:Seat} (ok:OkTv M) (s:Dg) (K:Nat) (C:Nat→Dg) (st:V) (hst:∃ f,st = .lst 116 K f) (n:Int):Ag M 129 [CY s (.lst 32 K fun j=>dg (C j)) st,.int .i64 n] [] 0 (Q3 (dg (EI K C n)) [] 0):=by
 obtain ⟨f,rfl⟩:=hst
 refine Ab ok.k129 rfl fun x hx=>?_
 by_cases h0:0≤n
 ·by_cases h1:n < K
  ·obtain ⟨p,rfl⟩:∃ p:Nat,n=p:=⟨n.toNat,by omega⟩
   rw [EI,if_pos ⟨h0,h1⟩,Int.toNat_natCast]
   refine es 2000 ?_;(simp only [XP,Apz,CY,h0,h1,LZ,seval])
   repeat refine sd ?_
   have zz:=@dg.eq_1;exact Bf hx [] ⟨rfl,rfl,rfl⟩
  ·rw [EI,if_neg (fun h=>h1 h.2)]
   refine es 2000 ?_;(simp only [XP,Apz,CY,h0,h1,LZ,seval])
   refine Ar.mk hx [] [] (dg (otD n)) [] 0 Am (by (simp only [CU,seval])) ?_ trivial ⟨rfl,rfl,rfl⟩
   simp only [OJ,otD,dg,seval]
   intro j hj
   rw [Dg.at_mk' _ j hj]
   by_cases h2:j=2 <;> by_cases h3:j=1 <;> by_cases h4:j=0 <;> simp only [h2,h3,h4,CL,LY,seval]
 ·rw [EI,if_neg (fun h=>h0 h.1)]
  refine es 2000 ?_;(simp only [XP,Apz,CY,h0,LZ,seval])
  refine Ar.mk hx [] [] (dg (otD n)) [] 0 Am (by (simp only [CU,seval])) ?_ trivial ⟨rfl,rfl,rfl⟩
  simp only [OJ,otD,dg,seval]
  intro j hj
  rw [Dg.at_mk' _ j hj]
  by_cases h2:j=2 <;> by_cases h3:j=1 <;> by_cases h4:j=0 <;> simp only [h2,h3,h4,CL,LY,seval]
structure Ga where
 dp:Int
 pl:Int
 rt:Int
 lm:BitVec 64
 gr:BitVec 64
 rc:BitVec 64
 nw:BitVec 64
instance:Inhabited Ga:=⟨⟨0,0,0,0,0,0,0⟩⟩
def Ga.v (a:Ga):V:=.st 7 (.fcons 0 (.int .i64 a.dp) (.fcons 1 (.int .i64 a.pl) (.fcons 2 (.int .i64 a.rt) (.fcons 3 (W a.lm) (.fcons 4 (W a.gr) (.fcons 5 (W a.rc) (.fcons 6 (W a.nw) .fnil)))))))
def C3 (n:Nat) (l:Nat→Op):V:=.lst 8 n fun j=>(l j).v
theorem FH (l g:BitVec 64) (hr:Oa l g) (D:Nat) (hD:D≤20) (s v:Dg) (p:Nat) (hp:p < 8) (t:BitVec 64) (b:Nat→BitVec 64) (i o k:BitVec 64):(Gs.new D l g s v p t b i o k).ok:=by
 refine ⟨⟨hD,(by show 1≤64;decide),hr,fun j hj=>?_,fun j hj=>?_⟩,⟨fun j hj=>?_,fun j hj=>?_,fun j hj=>?_⟩,(by show 0 < 1;decide)⟩
 all_goals
  have hj:j < 1:=hj
  obtain rfl:j=0:=Aa
 ·exact ⟨0,0,Nat.zero_le _,by decide,rfl⟩
 ·exact .inl rfl
 ·exact ⟨rfl,rfl⟩
 ·exact ⟨p,hp,rfl⟩
 ·exact ⟨p,hp,rfl⟩
theorem Alj {e:Nat→Lv} {m:Nat} {x:Lv} {j:Nat} (h:j < m):Akg e m x j=e j:=if_pos h
theorem Amx (e:Nat→Lv) (m:Nat) (x:Lv):Akg e m x m=x:=if_neg (Nat.lt_irrefl _)
theorem Amn {e f:Nat→Lv} (kd pl:Int):∀ n,(∀ j,j < n→e j=f j)→suE e kd pl n=suE f kd pl n
 | 0,_=>rfl
 | n + 1,h=>by rw [suE,suE,Amn kd pl n fun j hj=>h j Aa,h n Aa]
theorem Aky {e f:Nat→Lv}:∀ n,(∀ j,j < n→e j=f j)→lkE e n=lkE f n
 | 0,_=>rfl
 | n + 1,h=>by rw [lkE,lkE,Aky n fun j hj=>h j Aa,h n Aa]
theorem Amt {e f:Nat→Lv} (b:Int):∀ n,(∀ j,j < n→e j=f j)→vlE e b n=vlE f b n
 | 0,_=>rfl
 | n + 1,h=>by rw [vlE,vlE,Amt b n fun j hj=>h j Aa,h n Aa,Aky n fun j hj=>h j Aa]
theorem Ams {e f:Nat→Lv} (b:Int):∀ n,(∀ j,j < n→e j=f j)→gvE e b n=gvE f b n
 | 0,_=>rfl
 | n + 1,h=>by rw [gvE,gvE,Ams b n fun j hj=>h j Aa,h n Aa]
theorem Akc (e:Nat→Lv) (m:Nat) (x:Lv) (kd pl:Int):suE (Akg e m x) kd pl (m + 1)=if x.kd=kd∧(pl < 0 ∨ x.pl=pl) then suE e kd pl m + x.v else suE e kd pl m:=by
 rw [suE,Amx,Amn kd pl m fun j hj=>Alj hj]
theorem Am6 (e:Nat→Lv) (m:Nat) (x:Lv):lkE (Akg e m x) (m + 1)=if x.kd=3 then lkE e m + 1 else lkE e m:=by
 rw [lkE,Amx,Aky m fun j hj=>Alj hj]
theorem Am7 (e:Nat→Lv) (m:Nat) (x:Lv) (b:Int):vlE (Akg e m x) b (m + 1)=if x.kd=3∧(lkE e m:Int)=b then x.v else vlE e b m:=by
 rw [vlE,Amx,Aky m fun j hj=>Alj hj,Amt b m fun j hj=>Alj hj]
theorem Ak0 (e:Nat→Lv) (m:Nat) (x:Lv) (b:Int):gvE (Akg e m x) b (m + 1)=(gvE e b m || decide (x.kd=4∧x.bd=b)):=by
 rw [gvE,Amx,Ams b m fun j hj=>Alj hj]
theorem Al1 (a b c:BitVec 64):a - (b + c)=a - b - c:=by
 rw [BitVec.sub_eq_add_neg,BitVec.sub_eq_add_neg,BitVec.sub_eq_add_neg,BitVec.neg_add,BitVec.sub_eq_add_neg,BitVec.add_assoc]
theorem n34:¬ (3:Int)=4:=Am
theorem n43:¬ (4:Int)=3:=Am
theorem Aqw {G:Gs} {m:Nat} {e:Nat→Lv} (L:Led G m e) (hm:m + 1 < 900) {a:Int} {df:Bool} {v:Dg} {pl:Int} {bd t:BitVec 64} (he:G.mE a df v pl bd t=none):Led (G.mT a df v pl bd t) (m + 1) (Akg e m ⟨3,pl,0,bd⟩):=by
 obtain ⟨p,rfl,hp,hrs,he⟩:=Gs.mE_in he
 unfold Gs.mT
 rw [Int.toNat_natCast]
 obtain ⟨-,-,-,-,-,-,-,⟨q,hq,rfl⟩,-⟩:=Me he
 rw [Int.toNat_natCast]
 generalize IE G p df v q t (Ia (G.c p).pos) (Wt (G.c p).pos)=X
 refine ⟨hm,?_,fun r hr=>?_,fun a ha=>?_,fun a ha=>?_,fun a ha=>?_,?_⟩
 ·rw [Am6,if_pos rfl,L.n];rfl
 ·unfold blE
  rw [Akc,Akc,Akc,Akc]
  show _=if r=q then G.b q - bd else G.b r
  dsimp only
  rw [if_neg (fun h=>absurd h.1 Am),if_neg (fun h=>absurd h.1 Am),if_neg (fun h=>absurd h.1 Am)]
  by_cases hrq:r=q
  ·subst hrq
   rw [if_pos ⟨rfl,.inr rfl⟩,if_pos rfl,← L.b r hr,blE,Al1]
  ·rw [if_neg (fun h=>h.2.elim (fun h=>by omega) (fun h=>hrq Aa)),if_neg hrq]
   exact L.b r hr
 ·have ha:a < G.n + 1:=ha
  rw [Am7,L.n]
  show _=if a < G.n then G.v a else bd
  dsimp only
  by_cases h:a < G.n
  ·rw [if_neg (fun h2=>by have:=h2.2;omega),if_pos h];exact L.v a h
  ·rw [if_pos ⟨rfl,by omega⟩,if_neg h]
 ·have ha:a < G.n + 1:=ha
  rw [Ak0,decide_eq_false (fun h=>n34 h.1),Bool.or_false]
  show _=if a < G.n then G.gv a else false
  by_cases h:a < G.n
  ·rw [if_pos h];exact L.g a h
  ·rw [if_neg h];exact L.g0 a Aa
 ·have ha:G.n + 1≤a:=ha
  rw [Ak0,decide_eq_false (fun h=>n34 h.1),Bool.or_false]
  exact L.g0 a Aa
 ·rw [Akc,Akc,if_pos ⟨rfl,.inl Am⟩,if_neg (fun h=>n34 h.1)]
  show _=G.k + bd
  rw [← L.k]
  dsimp only
  rw [BitVec.sub_eq_add_neg,BitVec.sub_eq_add_neg,BitVec.add_assoc,BitVec.add_comm bd,← BitVec.add_assoc]
theorem Ap7 {G:Gs} {m:Nat} {e:Nat→Lv} (L:Led G m e) (a:Int) (pl:Int):Led (G.tT a pl) m e:=⟨L.lt,L.n,L.b,L.v,L.g,L.g0,L.k⟩
theorem Apv {G:Gs} (wb:G.bd) {m:Nat} {e:Nat→Lv} (L:Led G m e) (hm:m + 1 < 900) {p:Nat} (hp:p < G.n):Led (G.rsv p) (m + 1) (Akg e m ⟨4,G.rsB p,p,G.v p⟩):=by
 obtain ⟨B,hB8,hB⟩:=G.rsB_lt wb hp
 rw [hB]
 refine ⟨hm,?_,fun r hr=>?_,fun a ha=>?_,fun a ha=>?_,fun a ha=>?_,?_⟩
 ·rw [Am6,if_neg n43];exact L.n
 ·unfold blE
  rw [Akc,Akc,Akc,Akc]
  show _=if r=(G.rsB p).toNat then G.b (G.rsB p).toNat + G.v p else G.b r
  rw [hB,Int.toNat_natCast]
  dsimp only
  have z1 (P:Prop):¬ ((4:Int)=1∧P):=fun h=>absurd h.1 Am
  have z2 (P:Prop):¬ ((4:Int)=2∧P):=fun h=>absurd h.1 Am
  have z3 (P:Prop):¬ ((4:Int)=3∧P):=fun h=>absurd h.1 Am
  simp only [z1,z2,z3,if_false]
  by_cases hrq:r=B
  ·subst hrq
   rw [if_pos ⟨trivial,.inr rfl⟩,if_pos rfl,← L.b r hr,blE,← BitVec.add_assoc]
   rw [BitVec.sub_eq_add_neg,BitVec.sub_eq_add_neg,BitVec.add_assoc (_ + _) (G.v p),BitVec.add_comm (G.v p),← BitVec.add_assoc,BitVec.add_assoc (_ + _ + _) (G.v p),BitVec.add_comm (G.v p),← BitVec.add_assoc,← BitVec.sub_eq_add_neg,← BitVec.sub_eq_add_neg]
  ·rw [if_neg (fun h=>h.2.elim (fun h=>by omega) (fun h=>hrq Aa)),if_neg hrq]
   exact L.b r hr
 ·rw [Am7,if_neg (fun h=>n43 h.1)];exact L.v a ha
 ·rw [Ak0]
  show _=if a=p then true else G.gv a
  by_cases h:a=p
  ·subst h
   rw [decide_eq_true ⟨rfl,rfl⟩,Bool.or_true,if_pos rfl]
  ·rw [decide_eq_false (fun h2=>h (by have:=h2.2;dsimp only at this;omega)),Bool.or_false,if_neg h];exact L.g a ha
 ·have ha:G.n≤a:=ha
  rw [Ak0,decide_eq_false (fun h2=>by have:=h2.2;dsimp only at this;omega),Bool.or_false];exact L.g0 a ha
 ·rw [Akc,Akc,if_neg (fun h=>n43 h.1),if_pos ⟨rfl,.inl Am⟩]
  show _=G.k - G.v p
  rw [← L.k,Al1]
def Ak6 (c:Nat→Cl):Nat→Nat
 | 0=>0
 | i + 1=>Ak6 c i + if (c i).rs=true then 1 else 0
theorem Aoe (c:Nat→Cl):∀ n,Ak6 c n≤n
 | 0=>Nat.le_refl _
 | n + 1=>by have:=Aoe c n;rw [Ak6];split <;> omega
theorem Alc {c d:Nat→Cl}:∀ n,(∀ j,j < n→(c j).rs=(d j).rs)→Ak6 c n=Ak6 d n
 | 0,_=>rfl
 | n + 1,h=>by rw [Ak6,Ak6,Alc n fun j hj=>h j Aa,h n Aa]
theorem Am8 {c d:Nat→Cl} {p:Nat} (hd:∀ j,j ≠ p→(d j).rs=(c j).rs) (h0:(c p).rs=false) (h1:(d p).rs=true):∀ n,Ak6 d n=Ak6 c n + if p < n then 1 else 0
 | 0=>by rw [if_neg Aa];rfl
 | n + 1 => by
   rw [Ak6,Ak6,Am8 hd h0 h1 n]
   by_cases hp:p < n
   ·rw [if_pos hp,hd n Aa,if_pos (show p < n + 1 by omega)];omega
   ·rw [if_neg hp]
    by_cases h2:n=p
    ·subst h2;rw [h0,h1,if_pos rfl,if_neg Am,if_pos Aa]
    ·rw [hd n h2,if_neg (show ¬ p < n + 1 by omega)];omega
structure LedC (G:Gs) (m:Nat) (e:Nat→Lv):Prop where
 l:Led G m e
 c:m=8 + G.n + Ak6 G.c G.n
theorem LedC.m1 {G:Gs} {m:Nat} {e:Nat→Lv} (h:LedC G m e) (w:G.wf):m + 1 < 900:=by
 have:=h.c
 have:=w.hn
 have:=Aoe G.c G.n
 omega
theorem App {G:Gs} (w:G.wf) {m:Nat} {e:Nat→Lv} (L:LedC G m e) {a:Int} {df:Bool} {v:Dg} {pl:Int} {bd t:BitVec 64} (he:G.mE a df v pl bd t=none):LedC (G.mT a df v pl bd t) (m + 1) (Akg e m ⟨3,pl,0,bd⟩):=by
 refine ⟨Aqw L.l (L.m1 w) he,?_⟩
 have:=L.c
 show m + 1=8 + (G.n + 1) + Ak6 _ (G.n + 1)
 rw [Ak6,Alc (d:=G.c) G.n (fun j hj=>by rw [show (G.mT a df v pl bd t).c j=G.c j from if_pos hj]),show (G.mT a df v pl bd t).c G.n=IE G a.toNat df v pl t (Ia (G.c a.toNat).pos) (Wt (G.c a.toNat).pos) from if_neg (Nat.lt_irrefl _),if_neg (by simp [IE,clN])]
 omega
theorem Ap0 {G:Gs} {m:Nat} {e:Nat→Lv} (L:LedC G m e) (a:Int) (pl:Int):LedC (G.tT a pl) m e:=by
 refine ⟨Ap7 L.l a pl,?_⟩
 rw [L.c]
 show _=8 + G.n + Ak6 _ G.n
 rw [Alc (d:=(G.tT a pl).c) G.n (fun j hj=>by
  show _=(if j=a.toNat then _ else _:Cl).rs
  split
  ·next h=>subst h;rfl
  ·rfl)]
theorem Ao6 {G:Gs} (w:G.wf) (wb:G.bd) {m:Nat} {e:Nat→Lv} (L:LedC G m e) {p:Nat} (hp:p < G.n) (hrs:(G.c p).rs=false):LedC (G.rsv p) (m + 1) (Akg e m ⟨4,G.rsB p,p,G.v p⟩):=by
 refine ⟨Apv wb L.l (L.m1 w) hp,?_⟩
 rw [L.c]
 show _=8 + G.n + Ak6 _ G.n
 rw [Am8 (c:=G.c) (p:=p) (d:=(G.rsv p).c) (fun j hj=>by rw [show (G.rsv p).c j=G.c j from if_neg hj]) hrs (by rw [show (G.rsv p).c p=G.rsC p from if_pos rfl];rfl),if_pos hp]
 omega
end Mv
