/- A part. -/
import Derived.Test.YtlfkjfonpacelaaGreatDoorFI
set_option linter.all false
set_option maxRecDepth 20000
set_option maxHeartbeats 8000000
namespace Mv
open Go
theorem QK (w:BitVec 64):isI w=true ↔ (CP w≤35∧w >>> 32 &&& 255#64=0#64):=by simp [isI]
theorem K5 {M:Seat} (ok:OkQ M) (I:MemI M) (h:Hd) (s:I.σ) (hz:I.Z s) (hl:h.hl=false) (hpc:¬ 8192#64≤h.pc) (q:Hd × Option Int × I.σ) (hq:nx I.mm h s=q) :
 Ag M 241 [h.v,.ifc I.t (.ptr 0 [])] (I.E0 s) I.k0 (Q3 (Ah q.1.v (B7 q.2.1)) (I.E q.2.2 I.k0) (I.k0 + 1)):=by
 obtain ⟨g,pc,hl',xt⟩:=h
 dsimp only at hl hpc
 subst hl
 rw [nx] at hq
 cases he:(I.mm.rd s pc).2.1 with
 | some e =>
   have h0:=P1 ok I g pc xt s hz hpc e he
   dsimp only at hq
   rw [he] at hq
   subst hq
   exact h0
 | none =>
   dsimp only at hq
   rw [he] at hq
   dsimp only at hq
   generalize hw:(I.mm.rd s pc).1=w at hq
   generalize hs:(I.mm.rd s pc).2.2=s1 at hq
   unfold Wy at hq
   by_cases q0:isI w=false
   ·rw [if_pos q0] at hq;subst hq
    exact RM ok I g pc xt s hz hpc w hw he s1 hs (fun h=>by rw [(QK w).2 h] at q0;cases q0)
   rw [if_neg q0] at hq
   obtain ⟨h35,h2⟩:=(QK w).1 (by simpa using q0)
   by_cases q1:CP w=0
   ·rw [if_pos q1] at hq;subst hq
    exact Nm ok I g pc xt s hz hpc w hw he s1 hs q1 h2
   rw [if_neg q1] at hq
   by_cases q2:CP w < 26
   ·rw [if_pos q2] at hq;subst hq
    exact LH ok I g pc xt s hz hpc w hw he s1 hs (CP w) Aa Aa rfl h2
   rw [if_neg q2] at hq
   by_cases q3:CP w=26
   ·rw [if_pos q3] at hq;subst hq
    exact RH ok I g pc xt s hz hpc w hw he s1 hs q3 h2
   rw [if_neg q3] at hq
   by_cases q4:CP w=27 ∨ CP w=28
   ·rw [if_pos q4] at hq
    by_cases q5:8192#64≤g (pF w 48) + BitVec.ofInt 64 (pN w)
    ·rw [if_pos q5] at hq;subst hq
     rcases q4 with q4 | q4
     ·exact Py ok I g pc xt s hz hpc w hw he s1 hs q4 h2 _ rfl q5
     ·exact OC ok I g pc xt s hz hpc w hw he s1 hs q4 h2 _ rfl q5
    rw [if_neg q5] at hq
    by_cases q6:CP w=27
    ·rw [if_pos q6] at hq;subst hq
     dsimp only
     cases he2:(I.mm.rd s1 (g (pF w 48) + BitVec.ofInt 64 (pN w))).2.1 with
     | none=>exact SC ok I g pc xt s hz hpc w hw he s1 hs q6 h2 _ rfl q5 he2
     | some e=>exact PD ok I g pc xt s hz hpc w hw he s1 hs q6 h2 _ rfl q5 e he2
    ·rw [if_neg q6] at hq;subst hq
     dsimp only
     have q6:CP w=28:=q4.resolve_left q6
     cases he2:(I.mm.wr s1 (g (pF w 48) + BitVec.ofInt 64 (pN w)) (g (pF w 44))).1 with
     | none=>exact RB ok I g pc xt s hz hpc w hw he s1 hs q6 h2 _ rfl q5 he2
     | some e=>exact Oo ok I g pc xt s hz hpc w hw he s1 hs q6 h2 _ rfl q5 e he2
   rw [if_neg q4] at hq
   by_cases q7:CP w < 34
   ·rw [if_pos q7] at hq;subst hq
    exact Oc ok I g pc xt s hz hpc w hw he s1 hs (CP w) Aa rfl h2
   rw [if_neg q7] at hq
   by_cases q8:CP w=34
   ·dsimp only at hq
    rw [q8] at hq
    by_cases q9:(wi (g (pF w 48)) 8#64 && wi (g (pF w 44)) 4#64)=false
    ·have:Tp I.mm 34 ⟨g,pc,false,xt⟩ s1 (g (pF w 48)) (g (pF w 44))=((⟨g,pc,false,xt⟩:Hd).stop Bn,none,s1):=by rw [Tp,if_pos];exact q9
     rw [this] at hq;subst hq
     exact Kg ok I g pc xt s hz hpc w hw he s1 hs q8 h2 q9
    ·simp only [Bool.not_eq_false,Bool.and_eq_true] at q9
     exact LD ok I g pc xt s hz hpc w hw he s1 hs q8 h2 q9.1 q9.2 q hq
   ·have q8:CP w=35:=Aa
    dsimp only at hq
    rw [q8] at hq
    by_cases q9:(wi (g (pF w 48)) 4#64 && wi (g (pF w 44)) 8#64)=false
    ·have:Tp I.mm 35 ⟨g,pc,false,xt⟩ s1 (g (pF w 48)) (g (pF w 44))=((⟨g,pc,false,xt⟩:Hd).stop Bn,none,s1):=by rw [Tp,if_pos];exact q9
     rw [this] at hq;subst hq
     exact Kw ok I g pc xt s hz hpc w hw he s1 hs q8 h2 q9
    ·simp only [Bool.not_eq_false,Bool.and_eq_true] at q9
     exact Lz ok I g pc xt s hz hpc w hw he s1 hs q8 h2 q9.1 q9.2 q hq
variable {M:Seat}
structure OkOs (M:Seat):Prop where
 q:OkQ M
 d:OkD M
 c:OkCk M
 p:OkPr M
 k97:Au M 97 f97=true
def BI (root:Dg) (h:Hd) (l:List Pf) (pre:Pr):V:=.st 116 (.fcons 0 (dg root) (.fcons 32 h.v (.fcons 51 (.lst 2 l.length (HC l)) (.fcons 52 (Bk pre) .fnil))))
def Mc.h (m:Mc):Hd:=⟨m.g,m.pc,m.hl,m.xt⟩
def Yb (m:Mc) (e:Option Int) (l:List Pf) (pre:Pr):V:=match e with
 | none=>Ah (BI (Dp m.f 13 0) m.h l pre) .nili
 | some n=>Ah (BI Dg.zero ⟨fun _=>0#64,0#64,false,0#64⟩ [] Pr.zero) (.ifc 74 (.int .i64 n))
def Lbm:=(Db @Hd.v.eq_1 @Mc.h.eq_1 @AM.eq_1 @Yb.eq_1 @Yb.eq_2 @BI.eq_1)
def Kt (va:V):V:=.st 4 (.fcons 0 (.map 2) (.fcons 1 (.ptr 3 []) (.fcons 2 (.map 4) (.fcons 3 va .fnil))))
def Lca:=(GM @LM @Lbm @Lbv @List.length_nil.{0} @Kt.eq_1)
theorem PR (ok:OkOs M) (f g:Nat→BitVec 64) (pc xt:BitVec 64) (pres:List (Dg × Pr)) (q:Nat) :
 Ag M 97 [.ptr 0 [],.ptr 1 []] [(0,A3 f g pc true xt),(1,Kt (.nils)),(2,BR Bk Pr.zero pres)] 5
  (Q3 (Yb ⟨f,g,pc,true,xt⟩ none [] Pr.zero) [(0,A3 f g pc true xt),(1,Kt (.nils)),(2,BR Bk Pr.zero pres)] 5):=by
 refine Ab ok.k97 rfl fun x hx=>?_
 have hN:Ag M 241 [AM g pc true xt,.ifc 422 (.ptr 0 [])] [(0,GL .nils Pr.zero),(1,A3 f g pc true xt),(2,stP (.nils)),(3,BR Bk Pr.zero pres)] 6 (Q3 (Ah (AM g pc true xt) .nili) [(0,GL .nils Pr.zero),(1,A3 f g pc true xt),(2,stP (.nils)),(3,BR Bk Pr.zero pres)] (6 + 1)) :=
  KG ok.q (Acq ok.q.okA ok.q.ok ok.p g pc true xt pres q) g pc xt ⟨f,[],Pr.zero⟩
 refine es 2000 ?_;(simp only [f97,c97,LZ,seval])
 have zz:=@A3.eq_1;refine Kb (Hj ok.q.okA f g pc true xt) ?_
 (simp only [BH,Zl,LZ,seval])
 have zz:=Bb @A3.eq_1 @AM.eq_1;refine Ce (Ft ok.d f g pc true xt) ?_
 (simp only [AH,AM,seval])
 have zz:=Bb @A3.eq_1 @dg.eq_1;refine Ce (El ok.q.okA f g pc true xt) ?_
 (simp only [AH,seval])
 have zz:=C4 Zz @Kt.eq_1 @J3;refine Bw [197,149,1,2,3,4] [197,149,1,2] (hN) ?_
 (simp only [NC,Zz,BH,seval])
 have zz:=Bb Lca @dg.eq_1;exact Bf hx [0,1,2,3,4] ⟨rfl,rfl,rfl⟩
theorem NA (ok:OkOs M) (f g:Nat→BitVec 64) (pc xt:BitVec 64) (hpc:8192#64≤pc) (pres:List (Dg × Pr)) (q:Nat) :
 Ag M 97 [.ptr 0 [],.ptr 1 []] [(0,A3 f g pc false xt),(1,Kt (.nils)),(2,BR Bk Pr.zero pres)] 5
  (Q3 (Yb ⟨f,g,pc,false,xt⟩ none [] Pr.zero) [(0,A3 f g pc false xt),(1,Kt (.nils)),(2,BR Bk Pr.zero pres)] 5):=by
 refine Ab ok.k97 rfl fun x hx=>?_
 have hN:Ag M 241 [AM g pc false xt,.ifc 422 (.ptr 0 [])] [(0,GL .nils Pr.zero),(1,A3 f g pc false xt),(2,stP (.nils)),(3,BR Bk Pr.zero pres)] 6 (Q3 (Ah (AM g pc true Bn) .nili) [(0,GL .nils Pr.zero),(1,A3 f g pc false xt),(2,stP (.nils)),(3,BR Bk Pr.zero pres)] (6 + 1)) :=
  Ji ok.q (Acq ok.q.okA ok.q.ok ok.p g pc false xt pres q) g pc xt ⟨f,[],Pr.zero⟩ hpc
 refine es 2000 ?_;(simp only [f97,c97,LZ,seval])
 have zz:=@A3.eq_1;refine Kb (Hj ok.q.okA f g pc false xt) ?_
 (simp only [BH,Zl,LZ,seval])
 have zz:=Bb @A3.eq_1 @AM.eq_1;refine Ce (Ft ok.d f g pc false xt) ?_
 (simp only [AH,AM,seval])
 have zz:=Bb @A3.eq_1 @dg.eq_1;refine Ce (El ok.q.okA f g pc false xt) ?_
 (simp only [AH,seval])
 have zz:=C4 Zz @Kt.eq_1 @J3;refine Bw [197,149,1,2,3,4] [197,149,1,2] (hN) ?_
 (simp only [NC,Zz,BH,seval])
 have zz:=Bb Lca @dg.eq_1;exact Bf hx [0,1,2,3,4] ⟨rfl,rfl,rfl⟩
theorem Sb (ok:OkOs M) (f g:Nat→BitVec 64) (pc xt:BitVec 64) (hpc:¬ 8192#64≤pc) (pres:List (Dg × Pr)) (q:Nat) (h1:Hd) (e:Option Int) (s1:Ps) (hq:nx (SP pres) ⟨g,pc,false,xt⟩ ⟨f,[],Pr.zero⟩=(h1,e,s1)) :
 Ag M 97 [.ptr 0 [],.ptr 1 []] [(0,A3 f g pc false xt),(1,Kt (.nils)),(2,BR Bk Pr.zero pres)] 5
  (Q3 (Yb ⟨f,g,pc,false,xt⟩ e s1.l s1.pre) [(0,A3 f g pc false xt),(1,Kt (.nils)),(2,BR Bk Pr.zero pres)] 5):=by
 refine Ab ok.k97 rfl fun x hx=>?_
 obtain ⟨g1,pc1,hl1,xt1⟩:=h1
 obtain ⟨f1,l1,pre1⟩:=s1
 have hN:Ag M 241 [AM g pc false xt,.ifc 422 (.ptr 0 [])] [(0,GL .nils Pr.zero),(1,A3 f g pc false xt),(2,stP (.nils)),(3,BR Bk Pr.zero pres)] 6 (Q3 (Ah (AM g1 pc1 hl1 xt1) (B7 e)) [(0,GL (.sl 6 [] 0 l1.length 2) pre1),(1,A3 f1 g pc false xt),(2,stP (.nils)),(3,BR Bk Pr.zero pres),(6,.ar 2 l1.length (HC l1))] (6 + 1)) :=
  K5 ok.q (Acq ok.q.okA ok.q.ok ok.p g pc false xt pres q) ⟨g,pc,false,xt⟩ ⟨f,[],Pr.zero⟩ rfl rfl hpc _ hq
 refine es 2000 ?_;(simp only [f97,c97,LZ,seval])
 have zz:=@A3.eq_1;refine Kb (Hj ok.q.okA f g pc false xt) ?_
 (simp only [BH,Zl,LZ,seval])
 have zz:=Bb @A3.eq_1 @AM.eq_1;refine Ce (Ft ok.d f g pc false xt) ?_
 (simp only [AH,AM,seval])
 have zz:=Bb @A3.eq_1 @dg.eq_1;refine Ce (El ok.q.okA f g pc false xt) ?_
 (simp only [AH,seval])
 cases e with
 | none =>
   have zz:=C4 Zz @Kt.eq_1 @J3;refine Bw [197,149,1,2,3,4] [197,149,1,2] (hN) ?_
   (simp only [Oh,Zz,B0,BH,seval])
   refine Ar.mk hx [0,1,2,3,4] [533] (Yb ⟨f,g,pc,false,xt⟩ none l1 pre1) [(0,A3 f g pc false xt),(1,Kt (.nils)),(2,BR Bk Pr.zero pres)] 5 Am (by (simp only [LV,EE,seval])) ?_ ?_ ⟨rfl,rfl,rfl⟩
   ·simp only [LV,Lbm,NC,dg,Fz,seval]
    refine ⟨by rfl,fun i hi=>?_⟩
    try rw [Nat.zero_add]
    exact Q5 _ _ _ _
   ·simp only [Kt,Fz,seval]
 | some n =>
   have zz:=C4 Zz @Kt.eq_1 @J3;refine Bw [197,149,1,2,3,4] [197,149,1,2] (hN) ?_
   (simp only [Oh,Zz,Aw,BH,Zl,seval])
   have zz:=Bb Lca Lbc;exact Bf hx [0,1,2,3,4] ⟨rfl,rfl,rfl⟩
def Mc.com (m:Mc):Dg:=Ac7 m.f m.g m.pc m.hl m.xt
def CV (pres:List (Dg × Pr)) (m:Mc):Option Int × List Pf × Pr :=
 if m.hl=true then (none,[],Pr.zero) else if 8192#64≤m.pc then (none,[],Pr.zero)
 else ((nx (SP pres) m.h ⟨m.f,[],Pr.zero⟩).2.1,(nx (SP pres) m.h ⟨m.f,[],Pr.zero⟩).2.2.l,(nx (SP pres) m.h ⟨m.f,[],Pr.zero⟩).2.2.pre)
theorem S3 {M:Seat} (ok:OkOs M) (m:Mc) (pres:List (Dg × Pr)) (q:Nat) :
 Ag M 97 [.ptr 0 [],.ptr 1 []] [(0,m.v),(1,Kt (.nils)),(2,BR Bk Pr.zero pres)] 5
  (Q3 (Yb m (CV pres m).1 (CV pres m).2.1 (CV pres m).2.2) [(0,m.v),(1,Kt (.nils)),(2,BR Bk Pr.zero pres)] 5):=by
 obtain ⟨f,g,pc,hl,xt⟩:=m
 unfold CV
 cases hl with
 | true=>rw [if_pos rfl];exact PR ok f g pc xt pres q
 | false =>
   rw [if_neg B5]
   by_cases hpc:8192#64≤pc
   ·rw [if_pos hpc];exact NA ok f g pc xt hpc pres q
   ·rw [if_neg hpc]
    generalize hq:nx (SP pres) (⟨f,g,pc,false,xt⟩:Mc).h ⟨f,[],Pr.zero⟩=r
    obtain ⟨h1,e,s1⟩:=r
    exact Sb ok f g pc xt hpc pres q h1 e s1 hq
def EJ:Mc:=⟨fun _=>0#64,fun _=>0#64,0#64,false,0#64⟩
def I3:Mc:=⟨fun _=>0#64,fun _=>0#64,0#64,true,0#64⟩
theorem Ax5:isI 0#64=true:=Am
theorem Axl:CP 0#64=0:=Am
theorem nx0 (pres:List (Dg × Pr)):nx (SP pres) EJ.h ⟨EJ.f,[],Pr.zero⟩=(I3.h,none,⟨EJ.f,[Da EJ.f 0#64],Pr.zero⟩):=by
 show Wy (SP pres) EJ.h 0#64 ⟨EJ.f,[Da EJ.f 0#64],Pr.zero⟩=_
 rw [Wy,if_neg (by rw [Ax5];simp),if_pos Axl]
 rfl
theorem Ax1 (pres:List (Dg × Pr)):CV pres EJ=(none,[Da EJ.f 0#64],Pr.zero):=by
 rw [CV,if_neg (by simp [EJ]),if_neg Am,nx0]
variable {M:Seat}
def Lv (a b c:Nat):V:=.st 4 (.fcons 0 (.map a) (.fcons 1 (.ptr b []) (.fcons 2 (.map c) (.fcons 3 .nils .fnil))))
def I2 (at':BitVec 64) (mp sp:Nat):V:=.st 3 (.fcons 0 (W at') (.fcons 1 (.ptr mp []) (.fcons 2 (.ptr sp []) .fnil)))
def kn0:V:=.mp 0 (fun _=>W 0#64) (fun _=>dg Dg.zero)
theorem Awh (H:Hp) (m z:List Nat) (ks vs:Nat→V):Az H m z (kmV []) (.mp 0 ks vs)=True:=by
 simp only [kmV,Az,List.length_nil,Nat.not_lt_zero,false_implies,implies_true,and_self]
theorem Awa (H:Hp) (m z:List Nat) (ks vs:Nat→V):Az H m z kn0 (.mp 0 ks vs)=True:=by
 simp only [kn0,Az,Nat.not_lt_zero,false_implies,implies_true,and_self]
structure OkHn (M:Seat):Prop where
 o:OkHo M
 p:OkPr M
 k152:Au M 152 Ave=true
theorem Auw (ok:OkHn M) (f g:Nat→BitVec 64) (pc:BitVec 64) (hl:Bool) (xt:BitVec 64) (pres:List (Dg × Pr)) (d:Int) (hd:d < 1 ∨ 20 < d) :
 Ag M 152 [.ptr 0 [],.ptr 1 [],.int .i64 d] [] 2 (Q3 (Ah .nilp (.ifc 74 (.int .i64 2))) [] 2):=by
 refine Ab ok.k152 rfl fun x hx=>?_
 by_cases h1:d < 1
 ·refine es 2000 ?_;(simp only [Ave,Avc,h1,LZ,seval])
  have zz:=@Ah.eq_1;exact Bf hx [0,1] ⟨rfl,rfl,rfl⟩
 ·have h2:(20 < d)=True:=eq_true (hd.resolve_left h1)
  refine es 2000 ?_;(simp only [Ave,Avc,h1,h2,LZ,seval])
  have zz:=@Ah.eq_1;exact Bf hx [0,1] ⟨rfl,rfl,rfl⟩
theorem Atk (ok:OkHn M) (f g:Nat→BitVec 64) (pc:BitVec 64) (hl:Bool) (xt:BitVec 64) (pres:List (Dg × Pr)) (d:Int) (hd:1≤d∧d≤20) :
 Ag M 152 [.ptr 0 [],.ptr 1 [],.int .i64 d] [(0,A3 f g pc hl xt),(1,Lv 2 3 4),(2,BR Bk Pr.zero pres)] 5 (Q3 (Ah (.ptr 5 []) .nili) [(0,A3 f g pc hl xt),(1,Lv 2 3 4),(2,BR Bk Pr.zero pres),(5,EA (.sl 6 [] 0 1 3) d (.map 7) (.map 8)),(6,.ar 3 1 fun _=>I2 0#64 9 10),(7,kn0),(8,kmV []),(9,A3 f g pc hl xt),(10,Lv 11 3 12),(11,BR Bk Pr.zero pres),(12,E8 [])] 13):=by
 have h1:(d < 1)=False:=eq_false Aa
 have h2:(20 < d)=False:=eq_false Aa
 have hC:=Hj ok.o.p.m f g pc hl xt
 have hS:=Kd ok.p 0 pres
 refine Ab ok.k152 rfl fun x hx=>?_
 refine es 2000 ?_;(simp only [Ave,Avc,h1,h2,Zt,Lv,seval])
 have zz:=@A3.eq_1;refine Kb (hC) ?_
 (simp only [Zt,Lv,seval])
 have zz:=@J3;refine Bw [1,2,3,4] [1,2] (hS) ?_
 (simp only [Lv,Iu,EE,seval])
 refine Ar.mk hx [0,1,2,3,4,469,389,421,437,277,309,310,311] [] (Ah (.ptr 5 []) .nili) _ 13 Am (by (simp only [CU,seval])) (by simp only [LV,Ah,LY,seval]) ?_ ⟨rfl,rfl,rfl⟩
 simp only [EA,I2,A3,Lv,Awh,Awa,Du,Fz,seval]
 intro j hj
 obtain rfl:j=0:=Aa
 simp only [if_true,LY,seval]
theorem Avm (ok:OkV M):Ag M 71 [.ptr 0 [],.ptr 1 [],.int .i64 1] [(0,EJ.v)] 2 (Q3 (Ah (.int .i64 1) .nili) [(0,I3.v)] 2):=by
 have hS:=Atx ok EJ.f EJ.g EJ.pc EJ.xt Am 0#64 rfl Axl Am
 have h:=Avv ok (fun i=>if i=0 then EJ else I3) 1 1 Am Am (fun i hi=>by
  obtain rfl:i=0:=Aa
  exact ⟨rfl,hS⟩) (.inl rfl)
 exact h
variable {M:Seat}
structure OkHr (M:Seat):Prop where
 n:OkHn M
 v:OkV M
 k275:Au M 275 Avr=true
def pt2 (j:Nat):V:=if j=0 then I2 0#64 4 5 else I2 1#64 10 11
theorem Auq (ok:OkHr M) (pres:List (Dg × Pr)) (d:Int) :
 Ag M 275 [.ptr 0 [],W 1#64] [(0,EA (.sl 2 [] 0 1 3) d (.map 3) (.map 1)),(2,.ar 3 1 fun _=>I2 0#64 4 5),(4,EJ.v),(5,Lv 6 7 8),(6,BR Bk Pr.zero pres)] 9
  (Q3 (I2 1#64 10 11) [(0,EA (.sl 9 [] 0 2 3) d (.map 3) (.map 1)),(4,EJ.v),(5,Lv 6 7 8),(6,BR Bk Pr.zero pres),(9,.ar 3 2 pt2),(10,I3.v),(11,Lv 12 7 13),(12,BR Bk Pr.zero pres),(13,E8 [])] 14):=by
 have hC:=Hj ok.n.o.p.m EJ.f EJ.g EJ.pc EJ.hl EJ.xt
 have hS:=Kd ok.n.p 0 pres
 have hR:=Avm ok.v
 have z1:IntKind.i64.wrap 1=1:=rfl
 simp only [Mc.v,EJ,I3,A3] at hC hR
 refine Ab ok.k275 rfl fun x hx=>?_
 refine es 2000 ?_;(simp only [Avr,Av0,EA,I2,Lv,Mc.v,EJ,Zt,seval])
 refine AW ?_
 refine es 2000 ?_
 (simp only [EA,I2,Lv,Mc.v,EJ,Zt,seval])
 repeat refine sd ?_
 refine AW ?_
 refine es 2000 ?_
 (simp only [z1,EA,I2,Lv,Mc.v,EJ,Zt,seval])
 repeat refine sd ?_
 have zz:=@A3.eq_1;refine ofY (hC) ?_
 (simp only [EA,I2,Lv,Zt,seval])
 have zz:=@J3;refine L9 [5,6,7,8] [5,6] (hS) ?_
 (simp only [EA,I2,Lv,Iu,EE,seval])
 have zz:=@A3.eq_1;refine Bw [921,969] [921] (hR) ?_
 (simp only [NC,EA,I2,Lv,seval])
 refine Ar.mk hx [0,1,2,3,4,5,6,7,8,1769,921,969,970,971] [] (I2 1#64 10 11) _ 14 Am (by (simp only [CU,seval])) (by simp only [OJ,I2,seval]) ?_ ⟨rfl,rfl,rfl⟩
 simp only [I3,Du,Fz,seval]
 intro j hj
 rcases (show j=0 ∨ j=1 by omega) with rfl | rfl <;> simp only [pt2,I2,Nat.one_ne_zero,Nat.lt_irrefl,Nat.sub_self,Nat.zero_lt_one,CL,LY,seval]
theorem Aul (ok:OkHr M) (d:Int) :
 Ag M 275 [.ptr 0 [],W 0#64] [(0,EA (.sl 2 [] 0 2 3) d (.map 3) (.map 1)),(2,.ar 3 2 fun j=>if j=0 then I2 0#64 4 5 else I2 1#64 6 7),(6,I3.v)] 8
  (Q3 (I2 0#64 4 5) [(0,EA (.sl 2 [] 0 2 3) d (.map 3) (.map 1)),(2,.ar 3 2 fun j=>if j=0 then I2 0#64 4 5 else I2 1#64 6 7),(6,I3.v)] 8):=by
 have z1:IntKind.i64.wrap 1=1:=rfl
 have z2:IntKind.i64.wrap 2=2:=rfl
 refine Ab ok.k275 rfl fun x hx=>?_
 refine es 2000 ?_;(simp only [Avr,Av0,EA,I2,Lv,Mc.v,I3,Zt,seval])
 refine AW ?_
 refine es 2000 ?_
 (simp only [z1,EA,I2,Mc.v,I3,Zt,seval])
 repeat refine sd ?_
 refine AW ?_
 refine es 2000 ?_
 (simp only [z1,z2,EA,I2,Mc.v,I3,Zt,seval])
 repeat refine sd ?_
 refine AW ?_
 refine es 2000 ?_
 (simp only [z1,z2,EA,I2,Mc.v,I3,Zt,seval])
 repeat refine sd ?_
 refine Ar.mk hx [0,1,2,3,4,5,6,7] [] (I2 0#64 4 5) _ 8 Am (by (simp only [CU,seval])) (by simp only [OJ,I2,seval]) ?_ ⟨rfl,rfl,rfl⟩
 simp only [LY,seval]
 intro j hj
 rcases (show j=0 ∨ j=1 by omega) with rfl | rfl <;> simp only [Nat.one_ne_zero,CL,LY,seval]
theorem Aug (ok:OkHr M) (d:Int) :
 Ag M 275 [.ptr 0 [],W 1#64] [(0,EA (.sl 2 [] 0 2 3) d (.map 3) (.map 1)),(2,.ar 3 2 fun j=>if j=0 then I2 0#64 4 5 else I2 1#64 6 7),(6,I3.v)] 8
  (Q3 (I2 1#64 6 7) [(0,EA (.sl 2 [] 0 2 3) d (.map 3) (.map 1)),(2,.ar 3 2 fun j=>if j=0 then I2 0#64 4 5 else I2 1#64 6 7),(6,I3.v)] 8):=by
 have z1:IntKind.i64.wrap 1=1:=rfl
 have z2:IntKind.i64.wrap 2=2:=rfl
 refine Ab ok.k275 rfl fun x hx=>?_
 refine es 2000 ?_;(simp only [Avr,Av0,EA,I2,Lv,Mc.v,I3,Zt,seval])
 refine AW ?_
 refine es 2000 ?_
 (simp only [z1,EA,I2,Mc.v,I3,Zt,seval])
 repeat refine sd ?_
 refine AW ?_
 refine es 2000 ?_
 (simp only [z1,z2,EA,I2,Mc.v,I3,Zt,seval])
 repeat refine sd ?_
 refine AW ?_
 refine es 2000 ?_
 (simp only [z1,z2,EA,I2,Mc.v,I3,Zt,seval])
 repeat refine sd ?_
 refine Ar.mk hx [0,1,2,3,4,5,6,7] [] (I2 1#64 6 7) _ 8 Am (by (simp only [CU,seval])) (by simp only [OJ,I2,seval]) ?_ ⟨rfl,rfl,rfl⟩
 simp only [LY,seval]
 intro j hj
 rcases (show j=0 ∨ j=1 by omega) with rfl | rfl <;> simp only [Nat.one_ne_zero,CL,LY,seval]
theorem Aun (ok:OkHr M) (d:Int) :
 Ag M 275 [.ptr 0 [],W 2#64] [(0,EA (.sl 2 [] 0 2 3) d (.map 3) (.map 1)),(2,.ar 3 2 fun j=>if j=0 then I2 0#64 4 5 else I2 1#64 6 7),(6,I3.v)] 8
  (Q3 (I2 1#64 6 7) [(0,EA (.sl 2 [] 0 2 3) d (.map 3) (.map 1)),(2,.ar 3 2 fun j=>if j=0 then I2 0#64 4 5 else I2 1#64 6 7),(6,I3.v)] 8):=by
 have z1:IntKind.i64.wrap 1=1:=rfl
 have z2:IntKind.i64.wrap 2=2:=rfl
 refine Ab ok.k275 rfl fun x hx=>?_
 refine es 2000 ?_;(simp only [Avr,Av0,EA,I2,Lv,Mc.v,I3,Zt,seval])
 refine AW ?_
 refine es 2000 ?_
 (simp only [z1,EA,I2,Mc.v,I3,Zt,seval])
 repeat refine sd ?_
 refine AW ?_
 refine es 2000 ?_
 (simp only [z1,z2,EA,I2,Mc.v,I3,Zt,seval])
 repeat refine sd ?_
 refine AW ?_
 refine es 2000 ?_
 (simp only [z1,z2,EA,I2,Mc.v,I3,Zt,seval])
 repeat refine sd ?_
 refine Ar.mk hx [0,1,2,3,4,5,6,7] [] (I2 1#64 6 7) _ 8 Am (by (simp only [CU,seval])) (by simp only [OJ,I2,seval]) ?_ ⟨rfl,rfl,rfl⟩
 simp only [LY,seval]
 intro j hj
 rcases (show j=0 ∨ j=1 by omega) with rfl | rfl <;> simp only [Nat.one_ne_zero,CL,LY,seval]
variable {M:Seat}
def kn1 (h:Dg):V:=.mp 1 (fun _=>W 1#64) (fun _=>dg h)
theorem Au7 (z:Z) (hh:Bool) (k:BitVec 64) (H:Hp):Mw .int z true hh kn0 (W k) H=⟨hh=true,.tup (.fcons 0 (z.v 0) (.fcons 1 (.bool false) .fnil)),H⟩:=by
 simp [Mw,kn0,Kk,AD,W,V.solid]
theorem At2 (z:Z) (hh:Bool) (h:Dg) (H:Hp):Mw .int z true hh (kn1 h) (W 1#64) H=⟨hh=true,.tup (.fcons 0 (dg h) (.fcons 1 (.bool true) .fnil)),H⟩:=by
 simp [Mw,kn1,Kk,AD,AK,W,V.solid]
theorem Avq (hh:Bool) (h:Dg) (id:Nat) (H:Hp):Qz .int hh kn0 (W 1#64) (dg h) id H=⟨hh=true,.tup .fnil,BU H id (.mp 1 (fun j=>if j=0 then W 1#64 else W 0#64) (fun j=>if j=0 then dg h else dg Dg.zero))⟩:=by
 simp only [Qz,kn0,Kk,DQ,Nat.not_lt_zero,false_implies,implies_true,and_true,Option.getD_none,AD,W,Nat.zero_add]
 rw [show (V.int IntKind.u64 ((1#64:BitVec 64).toNat:Int)).solid=true from rfl]
 simp only [RF]
 rfl
theorem I1 (m:List Nat) (c:Prop) [Decidable c] (a b:V):V.ren m (if c then a else b)=if c then V.ren m a else V.ren m b:=by split <;> rfl
structure OkHa (M:Seat):Prop where
 r:OkHr M
 k153:Au M 153 Aw6=true
 k154:Au M 154 Av4=true
def hL:List (Nat→BitVec 64):=oK EJ.f [] 256
theorem Auk (ok:OkHa M) (d:Int) :
 Ag M 153 [.ptr 0 []] [(0,EA (.sl 2 [] 0 1 3) d (.map 3) (.map 1)),(1,kmV []),(2,.ar 3 1 fun _=>I2 0#64 4 5),(4,EJ.v)] 6
  (Q3 (Ah (dg EJ.com) .nili) [(0,EA (.sl 2 [] 0 1 3) d (.map 3) (.map 1)),(1,kmV hL),(2,.ar 3 1 fun _=>I2 0#64 4 5),(4,EJ.v)] 6):=by
 have hO:=Au2 ok.r.n.o EJ.f EJ.g EJ.pc EJ.hl EJ.xt 1 d []
 rw [show Ch (Dp EJ.f 13 0) (DT EJ.g EJ.pc EJ.hl EJ.xt)=EJ.com from rfl,show oK EJ.f [] 256=hL from rfl] at hO
 generalize EJ.com=C0 at *
 generalize hL=l0 at *
 simp only [Mc.v,EJ,A3] at hO
 refine Ab ok.k153 rfl fun x hx=>?_
 refine es 2000 ?_;(simp only [Aw6,Aw1,EA,I2,Mc.v,EJ,Zt,seval])
 repeat refine sd ?_
 have zz:=Bb @EA.eq_1 @Bj;refine Bw [0,1,2,3,4] [0,1,4] (hO) ?_
 (simp only [NC,EA,I4,seval])
 have zz:=XK @Ah.eq_1 @EA.eq_1 @I2.eq_1 @Mc.v.eq_1 @EJ.eq_1 @A3.eq_1 @Bj @dg.eq_1;exact Bf hx [0,1,2,3,4,5] ⟨rfl,rfl,rfl⟩
theorem Au8 (ok:OkHa M) (pres:List (Dg × Pr)) (l:List (Nat→BitVec 64)) :
 Ag M 154 [.ptr 0 [],W 0#64] [(0,EA (.sl 2 [] 0 1 3) 1 (.map 3) (.map 1)),(1,kmV l),(2,.ar 3 1 fun _=>I2 0#64 4 5),(3,kn0),(4,EJ.v),(5,Lv 6 7 8),(6,BR Bk Pr.zero pres)] 9
  (Q3 (Ah (dg I3.com) .nili) [(0,EA (.sl 9 [] 0 2 3) 1 (.map 3) (.map 1)),(1,kmV (oK I3.f l 256)),(3,kn1 I3.com),(4,EJ.v),(5,Lv 6 7 8),(6,BR Bk Pr.zero pres),(9,.ar 3 2 pt2),(10,I3.v),(11,Lv 12 7 13),(12,BR Bk Pr.zero pres),(13,E8 [])] 14):=by
 have hR:=Auq ok.r pres 1
 have hO:=Au2 ok.r.n.o I3.f I3.g I3.pc I3.hl I3.xt 2 1 l
 rw [show Ch (Dp I3.f 13 0) (DT I3.g I3.pc I3.hl I3.xt)=I3.com from rfl] at hO
 have hk0:=fun z hh k H=>Au7 z hh k H
 have hku:=fun hh id H=>Avq hh I3.com id H
 generalize I3.com=C1 at *
 generalize oK I3.f l 256=l1 at *
 simp only [Mc.v,EJ,I3,A3] at hO hR
 have hpt:pt2=fun j=>if j=0 then I2 0#64 4 5 else I2 1#64 10 11:=funext fun _=>rfl
 rw [hpt] at hR ⊢
 refine Ab ok.k154 rfl fun x hx=>?_
 refine es 2000 ?_;(simp only [Av4,Avt,EA,I2,Mc.v,EJ,Zt,seval])
 have zz:=Ka @EA.eq_1 @I2.eq_1 @Lv.eq_1 @J3;refine Bw [0,1,2,3,4,5,6,7,8] [0,2,4,5,6] (hR) ?_
 (simp only [EA,I2,Lv,Iu,hk0,EE,seval])
 repeat refine sd ?_
 simp only [I1,I2,LN,LP,V.ren,AV,A6,BS,Ex,seval]
 have zz:=Bb @EA.eq_1 @Bj;refine Bw [0,1,265,3,266] [0,1,266] (hO) ?_
 (simp only [NC,EA,I2,Lv,I4,hku,seval])
 repeat refine sd ?_
 refine Ar.mk hx [0,1,2,3,4,5,6,7,8,265,266,267,268,269] [] (Ah (dg C1) .nili) _ 14 Am (by (simp only [CU,seval])) (by simp only [LV,AH,seval,LY]) ?_ ⟨rfl,rfl,rfl⟩
 simp only [I3,kn1,Bj,Lbx,seval]
 refine ⟨fun i hi=>?_,fun j hj=>?_⟩
 ·obtain rfl:i=0:=Aa
  simp only [if_true,LY,seval]
 ·rcases (show j=0 ∨ j=1 by omega) with rfl | rfl <;> simp only [Nat.one_ne_zero,CL,LY,seval]
def hB (pres:List (Dg × Pr)) (l:List (Nat→BitVec 64)):Hp:=[(0,EA (.sl 2 [] 0 2 3) 1 (.map 3) (.map 1)),(1,kmV l),(2,.ar 3 2 fun j=>if j=0 then I2 0#64 4 5 else I2 1#64 6 7),(3,kn1 I3.com),(4,EJ.v),(5,Lv 8 9 10),(6,I3.v),(7,Lv 11 9 12),(8,BR Bk Pr.zero pres),(10,E8 []),(11,BR Bk Pr.zero pres),(12,E8 [])]
theorem Au1 (ok:OkHa M) (pres:List (Dg × Pr)) (l:List (Nat→BitVec 64)) :
 Ag M 154 [.ptr 0 [],W 0#64] (hB pres l) 13 (Q3 (Ah (dg I3.com) .nili) (hB pres l) 13):=by
 have hR:=Aug ok.r 1
 have hk:=fun z hh H=>At2 z hh I3.com H
 unfold hB
 generalize I3.com=C1 at *
 simp only [Mc.v,I3,A3] at hR
 refine Ab ok.k154 rfl fun x hx=>?_
 refine es 2000 ?_;(simp only [Av4,Avt,EA,I2,Lv,Mc.v,EJ,I3,Zt,seval])
 refine cnK [0,1,2,3,4,5,6,7] [0,2,6] (hR) (by constructor <;> (try simp only [EA,I2,LY,seval]) <;> first | exact q1 | (intro j hj;rcases (show j=0 ∨ j=1 by omega) with rfl | rfl <;> simp only [Nat.one_ne_zero,CL,LY,seval])) ?_
 (simp only [EA,I2,hk,I1,EE,seval])
 repeat refine sd ?_
 refine Ar.mk hx [0,1,2,3,4,5,6,7,8,9,10,11,12] [] (Ah (dg C1) .nili) _ 13 Am (by (simp only [CU,seval])) (by simp only [LV,AH,dg,seval,LY]) ?_ ⟨rfl,rfl,rfl⟩
 simp only [kn1,Lbx,I1,Bj,seval]
 intro j hj
 rcases (show j=0 ∨ j=1 by omega) with rfl | rfl <;> simp only [Nat.one_ne_zero,CL,LN,LP,V.ren,AV,A6,BS,Ex,seval,LY]
theorem Atu (ok:OkHa M) (pres:List (Dg × Pr)) (l:List (Nat→BitVec 64)) :
 Ag M 154 [.ptr 0 [],W 1#64] (hB pres l) 13 (Q3 (Ah (dg I3.com) .nili) (hB pres l) 13):=by
 have hR:=Aun ok.r 1
 have hk:=fun z hh H=>At2 z hh I3.com H
 unfold hB
 generalize I3.com=C1 at *
 simp only [Mc.v,I3,A3] at hR
 refine Ab ok.k154 rfl fun x hx=>?_
 refine es 2000 ?_;(simp only [Av4,Avt,EA,I2,Lv,Mc.v,EJ,I3,Zt,seval])
 refine cnK [0,1,2,3,4,5,6,7] [0,2,6] (hR) (by constructor <;> (try simp only [EA,I2,LY,seval]) <;> first | exact q1 | (intro j hj;rcases (show j=0 ∨ j=1 by omega) with rfl | rfl <;> simp only [Nat.one_ne_zero,CL,LY,seval])) ?_
 (simp only [EA,I2,hk,I1,EE,seval])
 repeat refine sd ?_
 refine Ar.mk hx [0,1,2,3,4,5,6,7,8,9,10,11,12] [] (Ah (dg C1) .nili) _ 13 Am (by (simp only [CU,seval])) (by simp only [LV,AH,dg,seval,LY]) ?_ ⟨rfl,rfl,rfl⟩
 simp only [kn1,Lbx,I1,Bj,seval]
 intro j hj
 rcases (show j=0 ∨ j=1 by omega) with rfl | rfl <;> simp only [Nat.one_ne_zero,CL,LN,LP,V.ren,AV,A6,BS,Ex,seval,LY]
end Mv
