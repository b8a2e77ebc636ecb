/- A part. -/
import Derived.Test.YtlfkjfonpacelaaGreatDoorHJ
set_option linter.all false
set_option maxRecDepth 20000
set_option maxHeartbeats 4000000
namespace Mv
open Go
variable {M:Seat}
structure OkOs (M:Seat):Prop where
 q:OkQ M
 d:OkD M
 c:OkCk M
 p:OkPr M
 k97:Ar M 97 f97=true
def UM (root:Dg) (h:Hd) (l:List Pf) (pre:Pr):V:=.st 116 (.fcons 0 (dg root) (.fcons 32 h.v (.fcons 51 (.lst 2 l.length (J1 l)) (.fcons 52 (AF pre) .fnil))))
def Mc.h (m:Mc):Hd:=⟨m.g,m.pc,m.hl,m.xt⟩
def pvR (m:Mc) (e:Option Int) (l:List Pf) (pre:Pr):V:=match e with
 | none=>Ag (UM (BV m.f 13 0) m.h l pre) .nili
 | some n=>Ag (UM Dg.zero ⟨fun _=>0#64,0#64,false,0#64⟩ [] Pr.zero) (.ifc 74 (.int .i64 n))
def Lbm:=(Va @Hd.v.eq_1 @Mc.h.eq_1 @By.eq_1 @pvR.eq_1 @pvR.eq_2 @UM.eq_1)
def OU (va:V):V:=.st 4 (.fcons 0 (.map 2) (.fcons 1 (.ptr 3 []) (.fcons 2 (.map 4) (.fcons 3 va .fnil))))
def Lca:=(GE @LM @Lbm @Lbv @List.length_nil.{0} @OU.eq_1)
theorem Qz (ok:OkOs M) (f g:Nat→BitVec 64) (pc xt:BitVec 64) (pres:List (Dg × Pr)) (q:Nat) :
 Ae M 97 [.ptr 0 [],.ptr 1 []] [(0,mach f g pc true xt),(1,OU (.nils)),(2,Bv AF Pr.zero pres)] 5
  (Q3 (pvR ⟨f,g,pc,true,xt⟩ none [] Pr.zero) [(0,mach f g pc true xt),(1,OU (.nils)),(2,Bv AF Pr.zero pres)] 5):=by
 refine Ab ok.k97 rfl fun x hx=>?_
 have hN:Ae M 241 [By g pc true xt,.ifc 422 (.ptr 0 [])] [(0,HM .nils Pr.zero),(1,mach f g pc true xt),(2,stP (.nils)),(3,Bv AF Pr.zero pres)] 6 (Q3 (Ag (By g pc true xt) .nili) [(0,HM .nils Pr.zero),(1,mach f g pc true xt),(2,stP (.nils)),(3,Bv AF Pr.zero pres)] (6 + 1)) :=
  Ug ok.q (Ahd ok.q.okA ok.q.ok ok.p g pc true xt pres q) g pc xt ⟨f,[],Pr.zero⟩
 refine es 2000 ?_;(simp only [f97,c97,LZ,seval])
 have zz:=@mach.eq_1;refine PW (DR ok.q.okA f g pc true xt) ?_
 (simp only [BC,pr0,LZ,seval])
 have zz:=Bo @mach.eq_1 @By.eq_1;refine DJ (E7 ok.d f g pc true xt) ?_
 (simp only [BU,By,seval])
 have zz:=Bo @mach.eq_1 @dg.eq_1;refine DJ (GK ok.q.okA f g pc true xt) ?_
 (simp only [BU,seval])
 have zz:=CX Lby @OU.eq_1 @Cn;refine Co [197,149,1,2,3,4] [197,149,1,2] (hN) ?_
 (simp only [Cj,Lby,BC,seval])
 have zz:=Bo Lca @dg.eq_1;exact Bu hx [0,1,2,3,4] ⟨rfl,rfl,rfl⟩
theorem Pi (ok:OkOs M) (f g:Nat→BitVec 64) (pc xt:BitVec 64) (hpc:8192#64≤pc) (pres:List (Dg × Pr)) (q:Nat) :
 Ae M 97 [.ptr 0 [],.ptr 1 []] [(0,mach f g pc false xt),(1,OU (.nils)),(2,Bv AF Pr.zero pres)] 5
  (Q3 (pvR ⟨f,g,pc,false,xt⟩ none [] Pr.zero) [(0,mach f g pc false xt),(1,OU (.nils)),(2,Bv AF Pr.zero pres)] 5):=by
 refine Ab ok.k97 rfl fun x hx=>?_
 have hN:Ae M 241 [By g pc false xt,.ifc 422 (.ptr 0 [])] [(0,HM .nils Pr.zero),(1,mach f g pc false xt),(2,stP (.nils)),(3,Bv AF Pr.zero pres)] 6 (Q3 (Ag (By g pc true A9) .nili) [(0,HM .nils Pr.zero),(1,mach f g pc false xt),(2,stP (.nils)),(3,Bv AF Pr.zero pres)] (6 + 1)) :=
  RM ok.q (Ahd ok.q.okA ok.q.ok ok.p g pc false xt pres q) g pc xt ⟨f,[],Pr.zero⟩ hpc
 refine es 2000 ?_;(simp only [f97,c97,LZ,seval])
 have zz:=@mach.eq_1;refine PW (DR ok.q.okA f g pc false xt) ?_
 (simp only [BC,pr0,LZ,seval])
 have zz:=Bo @mach.eq_1 @By.eq_1;refine DJ (E7 ok.d f g pc false xt) ?_
 (simp only [BU,By,seval])
 have zz:=Bo @mach.eq_1 @dg.eq_1;refine DJ (GK ok.q.okA f g pc false xt) ?_
 (simp only [BU,seval])
 have zz:=CX Lby @OU.eq_1 @Cn;refine Co [197,149,1,2,3,4] [197,149,1,2] (hN) ?_
 (simp only [Cj,Lby,BC,seval])
 have zz:=Bo Lca @dg.eq_1;exact Bu hx [0,1,2,3,4] ⟨rfl,rfl,rfl⟩
theorem Tz (ok:OkOs M) (f g:Nat→BitVec 64) (pc xt:BitVec 64) (hpc:¬ 8192#64≤pc) (pres:List (Dg × Pr)) (q:Nat) (h1:Hd) (e:Option Int) (s1:Ps) (hq:nx (Ns pres) ⟨g,pc,false,xt⟩ ⟨f,[],Pr.zero⟩=(h1,e,s1)) :
 Ae M 97 [.ptr 0 [],.ptr 1 []] [(0,mach f g pc false xt),(1,OU (.nils)),(2,Bv AF Pr.zero pres)] 5
  (Q3 (pvR ⟨f,g,pc,false,xt⟩ e s1.l s1.pre) [(0,mach f g pc false xt),(1,OU (.nils)),(2,Bv AF Pr.zero pres)] 5):=by
 refine Ab ok.k97 rfl fun x hx=>?_
 obtain ⟨g1,pc1,hl1,xt1⟩:=h1
 obtain ⟨f1,l1,pre1⟩:=s1
 have hN:Ae M 241 [By g pc false xt,.ifc 422 (.ptr 0 [])] [(0,HM .nils Pr.zero),(1,mach f g pc false xt),(2,stP (.nils)),(3,Bv AF Pr.zero pres)] 6 (Q3 (Ag (By g1 pc1 hl1 xt1) (Da e)) [(0,HM (.sl 6 [] 0 l1.length 2) pre1),(1,mach f1 g pc false xt),(2,stP (.nils)),(3,Bv AF Pr.zero pres),(6,.ar 2 l1.length (J1 l1))] (6 + 1)) :=
  TV ok.q (Ahd ok.q.okA ok.q.ok ok.p g pc false xt pres q) ⟨g,pc,false,xt⟩ ⟨f,[],Pr.zero⟩ rfl rfl hpc _ hq
 refine es 2000 ?_;(simp only [f97,c97,LZ,seval])
 have zz:=@mach.eq_1;refine PW (DR ok.q.okA f g pc false xt) ?_
 (simp only [BC,pr0,LZ,seval])
 have zz:=Bo @mach.eq_1 @By.eq_1;refine DJ (E7 ok.d f g pc false xt) ?_
 (simp only [BU,By,seval])
 have zz:=Bo @mach.eq_1 @dg.eq_1;refine DJ (GK ok.q.okA f g pc false xt) ?_
 (simp only [BU,seval])
 cases e with
 | none =>
   have zz:=CX Lby @OU.eq_1 @Cn;refine Co [197,149,1,2,3,4] [197,149,1,2] (hN) ?_
   (simp only [Lbj,Lby,EA,BC,seval])
   refine Aq.mk hx [0,1,2,3,4] [533] (pvR ⟨f,g,pc,false,xt⟩ none l1 pre1) [(0,mach f g pc false xt),(1,OU (.nils)),(2,Bv AF Pr.zero pres)] 5 Am (by (simp only [LV,B7,seval])) ?_ ?_ ⟨rfl,rfl,rfl⟩
   ·simp only [LV,Lbm,Cj,dg,CB,seval]
    refine ⟨by rfl,fun i hi=>?_⟩
    try rw [Nat.zero_add]
    exact Sg _ _ _ _
   ·simp only [OU,CB,seval]
 | some n =>
   have zz:=CX Lby @OU.eq_1 @Cn;refine Co [197,149,1,2,3,4] [197,149,1,2] (hN) ?_
   (simp only [Lbj,Lby,BN,BC,pr0,seval])
   have zz:=Bo Lca Lbc;exact Bu hx [0,1,2,3,4] ⟨rfl,rfl,rfl⟩
def Zi (m:Mc) (q:Hd × Option Int × Ps):Mc:=match q.2.1 with
 | none=>⟨q.2.2.f,q.1.g,q.1.pc,q.1.hl,q.1.xt⟩
 | some _=>⟨m.f,m.g,m.pc,true,JH⟩
def D2 (pres:List (Dg × Pr)) (m:Mc):Mc :=
 if m.hl=true then m else if 8192#64≤m.pc then ⟨m.f,m.g,m.pc,true,A9⟩
 else Zi m (nx (Ns pres) m.h ⟨m.f,[],Pr.zero⟩)
theorem Ks (pres:List (Dg × Pr)) (f g:Nat→BitVec 64) (pc xt:BitVec 64) (hpc:¬ 8192#64≤pc) :
 D2 pres ⟨f,g,pc,false,xt⟩=Zi ⟨f,g,pc,false,xt⟩ (M5 (Ns pres) ⟨g,pc,false,xt⟩ (f pc.toNat) ⟨f,[Cg f pc],Pr.zero⟩):=by
 rw [D2,if_neg BD,if_neg hpc]
 rfl
theorem IW {M:Seat} (ok:OkV M) (okP:OkP M) (f g:Nat→BitVec 64) (pc xt:BitVec 64) (hpc:¬ 8192#64≤pc) (w:BitVec 64) (hw:f pc.toNat=w) (op:Nat) (h1:1≤op) (h25:op≤25) (hop:BP w=op) (h2:w >>> 32 &&& 255#64=0#64) :
 Ae M 70 [.ptr 0 [],.ptr 1 []] [(0,mach f g pc false xt)] 2 (Q3 .nili [(0,mach f (IS g (pF w 52) (apW op (g (pF w 48)) (g (pF w 44)) (g (pF w 40)))) (pc + 1#64) false xt)] 2):=by
 have hv:=GM okP op h1 h25 (g (pF w 48)) (g (pF w 44)) (g (pF w 40))
 refine Ab ok.k70 rfl fun x hx=>?_
 have hp:pc.toNat < 8192:=Gh
 have a1:=Ap w 52
 have a2:=Ap w 48
 have a3:=Ap w 44
 have a4:=Ap w 40
 have d1:((op:Int)=0)=False:=eq_false Aa
 have d2:((op:Int) < 26)=True:=eq_true Aa
 refine es 2000 ?_;(simp only [Lcb,hpc,hw,seval])
 repeat refine sd ?_
 have zz:=@Bg.eq_1;refine KZ (A6 ok w Aa h2) ?_
 (simp only [GR,hop,d1,d2,seval])
 repeat refine sd ?_
 refine Bh (hv) ?_
 (simp only [BU,seval])
 repeat refine sd ?_
 have zz:=Bo @mach.eq_1 Tx;exact Bu hx [0,1] ⟨rfl,rfl,rfl⟩
theorem Aj9 (op:Nat) (f g:Nat→BitVec 64) (pc xt:BitVec 64) (d a:Nat) (to:BitVec 64):PS op f g pc xt d a to=(⟨f,(Lk op ⟨g,pc,false,xt⟩ d a to).g,(Lk op ⟨g,pc,false,xt⟩ d a to).pc,(Lk op ⟨g,pc,false,xt⟩ d a to).hl,(Lk op ⟨g,pc,false,xt⟩ d a to).xt⟩:Mc).v:=by
 unfold PS Lk
 repeat' split
 all_goals rfl
theorem Aam {M:Seat} (ok:OkO M) (okP:OkP M) (pres:List (Dg × Pr)) (m:Mc) (h:¬ Oc m):Ih M m (D2 pres m):=by
 obtain ⟨f,g,pc,hl,xt⟩:=m
 cases hl with
 | true =>
   rw [D2,if_pos rfl]
   exact DB ok.toOkV f g pc xt
 | false =>
   by_cases hpc:8192#64≤pc
   ·rw [D2,if_neg BD,if_pos hpc]
    exact HH ok.toOkV f g pc xt hpc
   rw [Ks pres f g pc xt hpc]
   have key:∀ q:Hd × Option Int × Ps,M5 (Ns pres) ⟨g,pc,false,xt⟩ (f pc.toNat) ⟨f,[Cg f pc],Pr.zero⟩=q→Ae M 70 [.ptr 0 [],.ptr 1 []] [(0,mach f g pc false xt)] 2 (Q3 .nili [(0,(Zi ⟨f,g,pc,false,xt⟩ q).v)] 2) →
    Ih M ⟨f,g,pc,false,xt⟩ (Zi ⟨f,g,pc,false,xt⟩ (M5 (Ns pres) ⟨g,pc,false,xt⟩ (f pc.toNat) ⟨f,[Cg f pc],Pr.zero⟩)):=fun q hq hr=>by rw [hq];exact hr
   have hask:Oc ⟨f,g,pc,false,xt⟩=Oc ⟨f,g,pc,false,xt⟩:=rfl
   unfold Oc at h
   dsimp only at h
   by_cases q0:isI (f pc.toNat)=false
   ·refine key _ (by rw [M5,if_pos q0]) ?_
    exact HB ok.toOkV f g pc xt hpc _ rfl (fun h=>by rw [(FX _).2 h] at q0;cases q0)
   obtain ⟨h35,h2⟩:=(FX _).1 (by simpa using q0)
   by_cases q1:BP (f pc.toNat)=0
   ·refine key _ (by rw [M5,if_neg q0,if_pos q1]) ?_
    exact Eu ok.toOkV f g pc xt hpc _ rfl q1 h2
   by_cases q2:BP (f pc.toNat) < 26
   ·refine key _ (by rw [M5,if_neg q0,if_neg q1,if_pos q2]) ?_
    exact IW ok.toOkV okP f g pc xt hpc _ rfl (BP (f pc.toNat)) Aa Aa rfl h2
   by_cases q3:BP (f pc.toNat)=26
   ·refine key _ (by rw [M5,if_neg q0,if_neg q1,if_neg q2,if_pos q3]) ?_
    exact I6 ok.toOkV f g pc xt hpc _ rfl q3 h2
   by_cases q4:BP (f pc.toNat)=27 ∨ BP (f pc.toNat)=28
   ·by_cases hwh:8192#64≤g (pF (f pc.toNat) 48) + BitVec.ofInt 64 (pN (f pc.toNat))
    ·refine key _ (by rw [M5,if_neg q0,if_neg q1,if_neg q2,if_neg q3,if_pos q4,if_pos hwh]) ?_
     rcases q4 with q4 | q4
     ·exact Ef ok.toOkV f g pc xt hpc _ rfl q4 h2 _ rfl hwh
     ·exact DD ok.toOkV f g pc xt hpc _ rfl q4 h2 _ rfl hwh
    ·by_cases q5:BP (f pc.toNat)=27
     ·refine key _ (by rw [M5,if_neg q0,if_neg q1,if_neg q2,if_neg q3,if_pos q4,if_neg hwh,if_pos q5]) ?_
      exact Gq ok.toOkV f g pc xt hpc _ rfl q5 h2 _ rfl hwh
     ·refine key _ (by rw [M5,if_neg q0,if_neg q1,if_neg q2,if_neg q3,if_pos q4,if_neg hwh,if_neg q5]) ?_
      exact Fz ok.toOkV f g pc xt hpc _ rfl (q4.resolve_left q5) h2 _ rfl hwh
   by_cases q7:BP (f pc.toNat) < 34
   ·refine key _ (by rw [M5,if_neg q0,if_neg q1,if_neg q2,if_neg q3,if_neg q4,if_pos q7]) ?_
    have hJ:=Cw ok.toOkV (BP (f pc.toNat)) Aa f g pc xt hpc _ rfl rfl h2
    rw [Aj9] at hJ
    exact hJ
   by_cases q8:BP (f pc.toNat)=34
   ·have hw:(wi (g (pF (f pc.toNat) 48)) 8#64 && wi (g (pF (f pc.toNat) 44)) 4#64)=false:=by
     cases hb:(wi (g (pF (f pc.toNat) 48)) 8#64 && wi (g (pF (f pc.toNat) 44)) 4#64) with
     | false=>rfl
     | true=>exact absurd ⟨rfl,hpc,h2,.inl ⟨q8,hb⟩⟩ h
    refine key ((⟨g,pc,false,xt⟩:Hd).stop A9,none,⟨f,[Cg f pc],Pr.zero⟩) ?_ (Fm ok f g pc xt hpc _ rfl q8 h2 hw)
    rw [M5,if_neg q0,if_neg q1,if_neg q2,if_neg q3,if_neg q4,if_neg q7,Qp,if_pos]
    rw [q8];exact hw
   ·have q8:BP (f pc.toNat)=35:=Aa
    have hw:(wi (g (pF (f pc.toNat) 48)) 4#64 && wi (g (pF (f pc.toNat) 44)) 8#64)=false:=by
     cases hb:(wi (g (pF (f pc.toNat) 48)) 4#64 && wi (g (pF (f pc.toNat) 44)) 8#64) with
     | false=>rfl
     | true=>exact absurd ⟨rfl,hpc,h2,.inr ⟨q8,hb⟩⟩ h
    refine key ((⟨g,pc,false,xt⟩:Hd).stop A9,none,⟨f,[Cg f pc],Pr.zero⟩) ?_ (Fp ok f g pc xt hpc _ rfl q8 h2 hw)
    rw [M5,if_neg q0,if_neg q1,if_neg q2,if_neg q3,if_neg q4,if_neg q7,Qp,if_pos]
    rw [q8];exact hw
theorem Ud {p q:Nat→BitVec 8} (h:∀ j,j < 64→p j=q j):Pr.mk' p=Pr.mk' q:=by
 unfold Pr.mk'
 congr 1
 exact List.map_congr_left fun j hj=>h j (List.mem_range.1 hj)
theorem UT {p q:Nat→BitVec 8} (h:∀ j,j < 32→p j=q j):Dg.mk' p=Dg.mk' q:=by
 unfold Dg.mk'
 congr 1
 exact List.map_congr_left fun j hj=>h j (List.mem_range.1 hj)
theorem RY (f:Nat→BitVec 64) (a:BitVec 64) (n j:Nat) (h:a.toNat + n≤8192) (hj:j < 8 * n):D4 (Y9 f a n 0) j=AW (fun j=>f (a.toNat + j)) j:=by
 rw [D4,AW,AW,Yk f a n 0 (j / 8) Aa Aa,Nat.add_zero]
theorem RL (pres:List (Dg × Pr)) (f g:Nat→BitVec 64) (pc xt:BitVec 64) (hpc:¬ 8192#64≤pc) (w:BitVec 64) (hw:f pc.toNat=w) (hop:BP w=34) (h2:w >>> 32 &&& 255#64=0#64) (h3:wi (g (pF w 48)) 8#64=true) (h4:wi (g (pF w 44)) 4#64=true) :
 D2 pres ⟨f,g,pc,false,xt⟩=⟨fun j=>if (g (pF w 44)).toNat≤j∧j < (g (pF w 44)).toNat + 4 then I8 (fun i=>(Cf (Pr.mk' (AW fun j=>f ((g (pF w 48)).toNat + j))).at).at (8 * (j - (g (pF w 44)).toNat) + i)) 8 else f j,g,pc + 1#64,false,xt⟩:=by
 have ha:(g (pF w 48)).toNat + 8≤8192:=DF h3
 have hb:(g (pF w 44)).toNat + 4≤8192:=DF h4
 have q0:¬ isI w=false:=by rw [(FX w).2 ⟨by omega,h2⟩];simp
 rw [Ks pres f g pc xt hpc,hw,M5,if_neg q0,if_neg Aa,if_neg Aa,if_neg Aa,if_neg Aa,if_neg Aa,hop]
 dsimp only
 rw [Qp,if_neg (by simp [h3,h4])]
 rw [show (if (34:Nat)=35 then 4 else 8)=8 from rfl,QR]
 dsimp only
 rw [if_pos rfl,Lh,Qc]
 have hP:Pr.mk' (D4 (Y9 f (g (pF w 48)) 8 0))=Pr.mk' (AW fun j=>f ((g (pF w 48)).toNat + j)):=Ud (fun j hj=>RY f _ 8 j ha Aa)
 rw [List.nil_append,hP]
 show (⟨_,_,_,_,_⟩:Mc)=_
 congr 1
 funext j
 dsimp only
 rw [RC _ _ 4 0 f j Aa]
 simp only [Nat.add_zero,YK]
theorem Uh (pres:List (Dg × Pr)) (f g:Nat→BitVec 64) (pc xt:BitVec 64) (hpc:¬ 8192#64≤pc) (w:BitVec 64) (hw:f pc.toNat=w) (hop:BP w=35) (h2:w >>> 32 &&& 255#64=0#64) (h3:wi (g (pF w 48)) 4#64=true) (h4:wi (g (pF w 44)) 8#64=true) :
 pQ f g pc xt (g (pF w 44)) (DM (Dg.mk' (AW fun j=>f ((g (pF w 48)).toNat + j))) pres)=(D2 pres ⟨f,g,pc,false,xt⟩).v:=by
 have ha:(g (pF w 48)).toNat + 4≤8192:=DF h3
 have hb:(g (pF w 44)).toNat + 8≤8192:=DF h4
 have q0:¬ isI w=false:=by rw [(FX w).2 ⟨by omega,h2⟩];simp
 rw [Ks pres f g pc xt hpc,hw,M5,if_neg q0,if_neg Aa,if_neg Aa,if_neg Aa,if_neg Aa,if_neg Aa,hop]
 dsimp only
 rw [Qp,if_neg (by simp [h3,h4])]
 rw [show (if (35:Nat)=35 then 4 else 8)=4 from rfl,QR]
 dsimp only
 have hP:Dg.mk' (D4 (Y9 f (g (pF w 48)) 4 0))=Dg.mk' (AW fun j=>f ((g (pF w 48)).toNat + j)):=UT (fun j hj=>RY f _ 4 j ha Aa)
 rw [if_neg Aa,YL,show (Ns pres).pi=prP pres from rfl,prP,List.nil_append,hP]
 cases DM (Dg.mk' (AW fun j=>f ((g (pF w 48)).toNat + j))) pres with
 | none=>rfl
 | some p =>
   dsimp only
   rw [Lh,Qc]
   show mach _ _ _ _ _=mach _ _ _ _ _
   congr 1
   funext j
   refine Eq.trans ?_ (RC _ _ 8 0 f j Aa).symm
   simp only [Nat.add_zero,YK]
theorem Iz {α:Type} (k k':Dg) (hne:¬ k'=k) (x:α):∀ l:List (Dg × α),DM k' (CV k x l)=DM k' l
 | []=>by simp [CV,DM,hne]
 | (h, y) :: r => by
   by_cases e:k=h
   ·subst e;simp [CV,DM,hne]
   ·have:=Iz k k' hne x r
    simp only [CV,e,if_false,DM,this]
theorem GP (w:WS) (p:Pr) (h:C3 w.pres):C3 (w.add p).pres:=by
 intro k q hk
 rw [WS.add,PD] at hk
 dsimp only at hk
 by_cases e:k=Cf p.at
 ·subst e
  rw [Oq] at hk
  cases hk;rfl
 ·rw [Iz _ _ e] at hk
  exact h k q hk
end Mv
namespace Mv
def C5 (w:Nat) (v:Nat→Nat):Nat→Nat
 | 0=>0
 | k + 1=>C5 w v k + (v k) <<< (w * k)
theorem KA (w:Nat) (v:Nat→Nat) (hv:∀ k,v k < 2 ^ w):∀ n,C5 w v n < 2 ^ (w * n)
 | 0=>by simp [C5]
 | n + 1 => by
   have h:=KA w v hv n
   have h2:=hv n
   simp only [C5,Nat.shiftLeft_eq]
   rw [Nat.mul_succ,Nat.pow_add,Nat.mul_comm (2 ^ (w * n))]
   have h3:(v n + 1) * 2 ^ (w * n)≤2 ^ w * 2 ^ (w * n):=Nat.mul_le_mul_right _ h2
   rw [Nat.add_mul] at h3
   omega
theorem En (w:Nat) (v:Nat→Nat) (hv:∀ k,v k < 2 ^ w):∀ n i,(C5 w v n >>> (w * i)) % 2 ^ w=if i < n then v i else 0
 | 0,i=>by simp [C5]
 | n + 1, i => by
   have ih:=En w v hv n i
   have hlt:=KA w v hv n
   simp only [C5,Nat.shiftLeft_eq,Nat.shiftRight_eq_div_pow] at ih ⊢
   by_cases h1:i < n
   ·rw [if_pos h1] at ih
    rw [if_pos Aa]
    have e1:w * n=w * i + (w + w * (n - i - 1)):=by
     have:n=i + 1 + (n - i - 1):=Aa
     rw [this,Nat.mul_add,Nat.mul_add]
     have e:i + 1 + (n - i - 1) - i - 1=n - i - 1:=Aa
     rw [e];omega
    have e2:v n * 2 ^ (w * n)=2 ^ (w * i) * (2 ^ w * (v n * 2 ^ (w * (n - i - 1)))):=by
     rw [e1,Nat.pow_add,Nat.pow_add]
     simp only [Nat.mul_assoc,Nat.mul_comm,Nat.mul_left_comm]
    rw [e2,Nat.add_mul_div_left _ _ (Nat.pow_pos Aa),Nat.add_mul_mod_self_left]
    exact ih
   ·by_cases h2:i=n
    ·subst h2
     rw [if_pos Aa,Nat.add_mul_div_right _ _ (Nat.pow_pos Aa),Nat.div_eq_of_lt hlt,Nat.zero_add,Nat.mod_eq_of_lt (hv i)]
    ·rw [if_neg Aa]
     have h3:C5 w v n + v n * 2 ^ (w * n) < 2 ^ (w * i):=by
      have:=KA w v hv (n + 1)
      simp only [C5,Nat.shiftLeft_eq] at this
      exact Nat.lt_of_lt_of_le this (Nat.pow_le_pow_right Aa (Nat.mul_le_mul_left _ Aa))
     rw [Nat.div_eq_of_lt h3];rfl
theorem Cp (w:Nat) {u v:Nat→Nat}:∀ n,(∀ k,k < n→u k=v k)→C5 w u n=C5 w v n
 | 0,_=>rfl
 | n + 1,h=>by rw [C5,C5,Cp w n (fun k hk=>h k Aa),h n Aa]
def KJ (s i:Nat):Nat:=(s >>> (64 * i)) % 18446744073709551616
def Afg (x k:Nat):Nat:=(x <<< k) % 18446744073709551616 ||| x >>> (64 - k)
def Aae (s x:Nat):Nat:=KJ s x ^^^ KJ s (x + 5) ^^^ KJ s (x + 10) ^^^ KJ s (x + 15) ^^^ KJ s (x + 20)
def Adb (s x:Nat):Nat:=Aae s ((x + 4) % 5) ^^^ Afg (Aae s ((x + 1) % 5)) 1
def thN (s j:Nat):Nat:=KJ s j ^^^ Adb s (j % 5)
def Z6:List Nat:=[0,6,12,18,24,3,9,10,16,22,1,7,13,19,20,4,5,11,17,23,2,8,14,15,21]
def Aht:List Nat:=[0,44,43,21,14,28,20,3,45,61,1,6,25,8,18,27,36,10,15,56,62,55,39,41,2]
def bN (s j:Nat):Nat:=Afg (thN s (Z6.getD j 0)) (Aht.getD j 0)
def Af9 (s j:Nat):Nat:=bN s j ^^^ ((18446744073709551615 ^^^ bN s (5 * (j / 5) + (j + 1) % 5)) &&& bN s (5 * (j / 5) + (j + 2) % 5))
def rcN (n:Nat):Nat:=(rounds.getD n 0).toNat
def Zq (s n:Nat):Nat:=C5 64 (fun k=>Af9 s k ^^^ (if k=0 then rcN n else 0)) 25
def Adu (s:Nat):Nat→Nat
 | 0=>s
 | n + 1=>Zq (Adu s n) n
def Wt (a j:Nat):Nat:=(a >>> (8 * j)) % 256
def Adt (a b j:Nat):Nat:=if j < 32 then Wt a j else if j < 64 then Wt b (j - 32) else if j=64 then 1 else if j=135 then 128 else 0
def xwN (p:Nat→Nat) (j:Nat):Nat→Nat
 | 0=>0
 | k + 1=>xwN p j k ^^^ ((p (8 * j + k) <<< (8 * k)) % 18446744073709551616)
def inN (a b:Nat):Nat:=C5 64 (fun i=>if i < 17 then xwN (Adt a b) i 8 else 0) 25
def Adk (s:Nat):Nat:=C5 8 (fun i=>(KJ s (i / 8) >>> (8 * (i % 8))) % 256) 32
def I2 (a b:Nat):Nat:=Adk (Adu (inN a b) 24)
def Jn (d:Dg):Nat:=C5 8 (fun i=>(d.at i).toNat) 32
theorem O9 (d:Dg) (i:Nat) (hi:i < 32):Wt (Jn d) i=(d.at i).toNat:=by
 have h:=En 8 (fun i=>(d.at i).toNat) (fun k=>(d.at k).isLt) 32 i
 rw [if_pos hi] at h
 exact h
def St (s:Nat) (l:List (BitVec 64)):Prop:=∀ i,i < 25→KJ s i=(l.getD i 0).toNat
theorem Ph (x:BitVec 64) (k:Nat):Afg x.toNat k=(Vd x k).toNat:=Oo x k
theorem Ah1 {s:Nat} {l:List (BitVec 64)} (h:St s l) (x:Nat) (hx:x < 5):Aae s x=(par l x).toNat:=by
 simp only [Aae,par,BitVec.toNat_xor,h x Aa,h (x + 5) Aa,h (x + 10) Aa,h (x + 15) Aa,h (x + 20) Aa]
theorem Ahm {s:Nat} {l:List (BitVec 64)} (h:St s l) (x:Nat):Adb s x=(SL l x).toNat:=by
 simp only [Adb,SL,BitVec.toNat_xor,Ah1 h _ (Nat.mod_lt _ (by omega:0 < 5)),Ph]
theorem Akc {s:Nat} {l:List (BitVec 64)} (h:St s l) (j:Nat) (hj:j < 25):thN s j=((th l).getD j 0).toNat:=by
 rw [XE _ _ hj,PN,if_pos Aa,BitVec.toNat_xor,thN,h j hj,Ahm h]
end Mv
namespace Mv
def Ln (p:Nat):Nat:=(lanes.getD p 0).toNat
def Tn (p:Nat):Nat:=(turns.getD p 0).toNat
def pos:Nat→Nat
 | 0=>1
 | p + 1=>Ln p
theorem Aiw:∀ p,p < 24→Ln p < 25:=Am
theorem Acu:∀ p,p < 24→∀ q,q < 24→p ≠ q→Ln p ≠ Ln q:=Am
theorem Afk:∀ j,j < 25→j ≠ 0→∃ p,p < 24∧Ln p=j∧pos p=Z6.getD j 0∧Tn p=Aht.getD j 0:=Am
theorem Aho:∀ p,p < 24→Ln p ≠ 0:=Am
def MW (a:List (BitVec 64)):Nat→Nat→BitVec 64
 | 0,j=>a.getD j 0
 | p + 1,j=>if j=Ln p then Vd (a.getD (pos p) 0) (Tn p) else MW a p j
theorem G5 (a:List (BitVec 64)) (j:Nat):∀ p,(∀ q,q < p→Ln q ≠ j)→MW a p j=a.getD j 0
 | 0,_=>rfl
 | p + 1,h=>by rw [MW,if_neg (fun e=>h p Aa e.symm),G5 a j p (fun q hq=>h q Aa)]
theorem ON (a:List (BitVec 64)) (p:Nat):∀ n,p < n→n≤24→MW a n (Ln p)=Vd (a.getD (pos p) 0) (Tn p)
 | 0,h,_=>by omega
 | n + 1, h, h2 => by
   by_cases e:p=n
   ·subst e;rw [MW,if_pos rfl]
   ·rw [MW,if_neg (Acu p Aa n Aa e),ON a p n Aa Aa]
theorem Tf (a:List (BitVec 64)) (ha:a.length=25):∀ p,p≤24→(KK a p).1=a.getD (pos p) 0∧∀ j,(KK a p).2.getD j 0=MW a p j
 | 0,_=>⟨rfl,fun _=>rfl⟩
 | p + 1, h => by
   obtain ⟨h1,h2⟩:=Tf a ha p Aa
   refine ⟨?_,fun j=>?_⟩
   ·show (KK a p).2.getD (Ln p) 0=a.getD (Ln p) 0
    rw [h2,G5 a _ p (fun q hq=>Acu q Aa p Aa Aa)]
   ·show ((KK a p).2.set (Ln p) (Vd (KK a p).1 (Tn p))).getD j 0=MW a (p + 1) j
    rw [Wa _ _ _ _ (by rw [Mx a ha];exact Aiw p Aa),h1,h2,MW]
theorem Aoe (x:BitVec 64):Vd x 0=x:=by
 have h:x >>> 64=0:=by
  apply BitVec.eq_of_toNat_eq
  rw [BitVec.toNat_ushiftRight,Nat.shiftRight_eq_div_pow,Nat.div_eq_of_lt x.isLt];rfl
 simp [Vd,h]
theorem Ae7 (a:List (BitVec 64)) (ha:a.length=25) (j:Nat) (hj:j < 25):(KK a 24).2.getD j 0=Vd (a.getD (Z6.getD j 0) 0) (Aht.getD j 0):=by
 rw [(Tf a ha 24 (Nat.le_refl _)).2]
 by_cases h0:j=0
 ·subst h0
  rw [G5 a 0 24 (fun q hq=>Aho q hq)]
  exact (Aoe _).symm
 ·obtain ⟨p,h1,h2,h3,h4⟩:=Afk j hj h0
  rw [← h2,ON a p 24 h1 (Nat.le_refl _),h2,h3,h4]
theorem Abi:∀ j,j < 25→Z6.getD j 0 < 25:=Am
theorem Agb {s:Nat} {l:List (BitVec 64)} (h:St s l) (j:Nat) (hj:j < 25):bN s j=((KK (th l) 24).2.getD j 0).toNat:=by
 rw [Ae7 _ (Yy l) j hj,bN,Akc h _ (Abi j hj),Ph]
theorem Aai (x:BitVec 64):(~~~x).toNat=18446744073709551615 ^^^ x.toNat:=by
 have h2:BitVec.allOnes 64 ^^^ x = ~~~x:=BitVec.allOnes_xor
 rw [← h2,BitVec.toNat_xor];rfl
theorem Af0 {s:Nat} {l:List (BitVec 64)} (h:St s l) (j:Nat) (hj:j < 25):Af9 s j=(Gp (KK (th l) 24).2 5 j).toNat:=by
 rw [Gp,if_pos Aa,BitVec.toNat_xor,BitVec.toNat_and,Aai,Af9,Agb h j hj,Agb h _ Aa,Agb h _ Aa]
theorem Ao3 (n:Nat) (hn:n < 24):rcN n=(rc.getD n 0).toNat:=by
 have:=Acq n hn
 rw [rcN,← this];rfl
theorem Aga {s:Nat} {l:List (BitVec 64)} (h:St s l) (n:Nat) (hn:n < 24):St (Zq s n) (rnd l n):=by
 intro i hi
 have hw:∀ k,(fun k=>if k < 25 then ((rnd l n).getD k 0).toNat else 0) k < 2 ^ 64:=by
  intro k
  simp only
  split
  ·exact BitVec.isLt _
  ·exact Nat.pow_pos Aa
 have e:Zq s n=C5 64 (fun k=>if k < 25 then ((rnd l n).getD k 0).toNat else 0) 25:=by
  unfold Zq
  refine Cp 64 25 (fun k hk=>?_)
  rw [if_pos hk,VX _ _ _ hk,Af0 h k hk]
  by_cases h0:k=0
  ·subst h0
   rw [if_pos rfl,if_pos rfl,BitVec.toNat_xor,Ao3 n hn]
  ·rw [if_neg h0,if_neg h0,Nat.xor_zero]
 have:=En 64 _ hw 25 i
 rw [if_pos hi] at this
 simp only [if_pos hi] at this
 rw [KJ,e]
 exact this
theorem Xq {s:Nat} {l:List (BitVec 64)} (h:St s l):∀ n,n≤24→St (Adu s n) (PB l n)
 | 0,_=>h
 | n + 1,hn=>Aga (Xq h n Aa) n Aa
theorem Ac3 (p:Nat→BitVec 8) (q:Nat→Nat) (j:Nat):∀ k,k≤8→(∀ i,i < 8→q (8 * j + i)=(p (8 * j + i)).toNat)→xwN q j k=(Y8 0 p j k).toNat
 | 0,_,_=>rfl
 | k + 1, hk, h => by
   rw [xwN,Y8,BitVec.toNat_xor,Ac3 p q j k Aa h,h k Aa,BitVec.toNat_shiftLeft,BitVec.toNat_setWidth]
   have hb:=(p (8 * j + k)).isLt
   rw [Nat.mod_eq_of_lt (by omega:(p (8 * j + k)).toNat < 2 ^ 64)]
theorem Aod (a b:Dg) (k:Nat) (hk:k < 136):Adt (Jn a) (Jn b) k=(VP a b k).toNat:=by
 unfold Adt VP
 by_cases h1:k < 32
 ·rw [if_pos h1,if_pos h1,O9 a k h1]
 ·rw [if_neg h1,if_neg h1]
  by_cases h2:k < 64
  ·rw [if_pos h2,if_pos h2,O9 b _ Aa]
  ·rw [if_neg h2,if_neg h2]
   split
   ·rfl
   ·split <;> rfl
theorem Ajl (a b:Dg):St (inN (Jn a) (Jn b)) (mix (List.replicate 25 0) (VP a b)):=by
 intro i hi
 have hrep:(List.replicate 25 (0:BitVec 64)).getD i 0=0:=by rw [List.getD,List.getElem?_replicate,if_pos hi];rfl
 have hw:∀ k,(fun k=>if k < 17 then (Y8 0 (VP a b) k 8).toNat else 0) k < 2 ^ 64:=by
  intro k
  simp only
  split
  ·exact BitVec.isLt _
  ·exact Nat.pow_pos Aa
 have e:inN (Jn a) (Jn b)=C5 64 (fun k=>if k < 17 then (Y8 0 (VP a b) k 8).toNat else 0) 25:=by
  unfold inN
  refine Cp 64 25 (fun k hk=>?_)
  by_cases h1:k < 17
  ·rw [if_pos h1,if_pos h1]
   exact Ac3 (VP a b) _ k 8 (Nat.le_refl _) (fun i hi=>Aod a b _ Aa)
  ·rw [if_neg h1,if_neg h1]
 have:=En 64 _ hw 25 i
 rw [if_pos hi] at this
 rw [KJ,e]
 refine Eq.trans this ?_
 rw [WG _ _ _ hi,R7,hrep]
 by_cases h1:i < 17
 ·simp only [if_pos h1]
 ·simp only [if_neg h1]
  split <;> rfl
theorem Ael {s:Nat} {l:List (BitVec 64)} (h:St s l):Adk s=Jn (VZ l):=by
 unfold Adk Jn
 refine Cp 8 32 (fun k hk=>?_)
 rw [VZ,Dg.at_mk' _ _ hk,BitVec.toNat_setWidth,BitVec.toNat_ushiftRight,h (k / 8) Aa]
theorem EV (a b:Dg):Jn (BX a b)=I2 (Jn a) (Jn b):=by
 rw [I2,BX,Le,Yt]
 exact (Ael (Xq (Ajl a b) 24 (Nat.le_refl _))).symm
def HE:Nat→Nat
 | 0=>0
 | h + 1=>I2 (HE h) (HE h)
theorem Afe:Jn Dg.zero=0:=by
 have h:Jn Dg.zero=C5 8 (fun _=>0) 32:=Cp 8 32 (fun k _=>by simp only [Dg.at_zero];rfl)
 rw [h];decide
theorem JG:∀ h,Jn (Au h)=HE h
 | 0=>Afe
 | h + 1=>by rw [Au,EV,JG h,HE]
end Mv
namespace Mv
open Go
def lf:Nat→Nat
 | 0=>1
 | n + 1=>if 255 < lf n * 2 then (lf n * 2) ^^^ 369 else lf n * 2
def kk (i:Nat):Nat→BitVec 64
 | 0=>0
 | j + 1=>if lf (7 * i + j) % 2=1 then kk i j ||| ((1:BitVec 64) <<< (2 ^ j - 1)) else kk i j
def p1 (p:Nat→BitVec 8) (j:Nat):BitVec 8:=if j < 64 then p j else if j=64 then 1 else 0
end Mv
