/- A part. -/
import Derived.Test.YtpcgkiecjakknaaGreatDoorDE
set_option linter.all false
set_option maxRecDepth 20000
set_option maxHeartbeats 8000000
namespace Mv
open Go
theorem QK (w:BitVec 64):isI w=true ↔ (CP w≤35∧w >>> 32 &&& 255#64=0#64):=by simp [isI]
theorem K5 {M:Seat} (ok:OkQ M) (I:MemI M) (h:Hd) (s:I.σ) (hz:I.Z s) (hl:h.hl=false) (hpc:¬ 8192#64≤h.pc) (q:Hd × Option Int × I.σ) (hq:nx I.mm h s=q) :
 Ag M 241 [h.v,.ifc I.t (.ptr 0 [])] (I.E0 s) I.k0 (Q3 (Ah q.1.v (B7 q.2.1)) (I.E q.2.2 I.k0) (I.k0 + 1)):=by
 obtain ⟨g,pc,hl',xt⟩:=h
 dsimp only at hl hpc
 subst hl
 rw [nx] at hq
 cases he:(I.mm.rd s pc).2.1 with
 | some e =>
   have h0:=P1 ok I g pc xt s hz hpc e he
   dsimp only at hq
   rw [he] at hq
   subst hq
   exact h0
 | none =>
   dsimp only at hq
   rw [he] at hq
   dsimp only at hq
   generalize hw:(I.mm.rd s pc).1=w at hq
   generalize hs:(I.mm.rd s pc).2.2=s1 at hq
   unfold Wy at hq
   by_cases q0:isI w=false
   ·rw [if_pos q0] at hq;subst hq
    exact RM ok I g pc xt s hz hpc w hw he s1 hs (fun h=>by rw [(QK w).2 h] at q0;cases q0)
   rw [if_neg q0] at hq
   obtain ⟨h35,h2⟩:=(QK w).1 (by simpa using q0)
   by_cases q1:CP w=0
   ·rw [if_pos q1] at hq;subst hq
    exact Nm ok I g pc xt s hz hpc w hw he s1 hs q1 h2
   rw [if_neg q1] at hq
   by_cases q2:CP w < 26
   ·rw [if_pos q2] at hq;subst hq
    exact LH ok I g pc xt s hz hpc w hw he s1 hs (CP w) Aa Aa rfl h2
   rw [if_neg q2] at hq
   by_cases q3:CP w=26
   ·rw [if_pos q3] at hq;subst hq
    exact RH ok I g pc xt s hz hpc w hw he s1 hs q3 h2
   rw [if_neg q3] at hq
   by_cases q4:CP w=27 ∨ CP w=28
   ·rw [if_pos q4] at hq
    by_cases q5:8192#64≤g (pF w 48) + BitVec.ofInt 64 (pN w)
    ·rw [if_pos q5] at hq;subst hq
     rcases q4 with q4 | q4
     ·exact Py ok I g pc xt s hz hpc w hw he s1 hs q4 h2 _ rfl q5
     ·exact OC ok I g pc xt s hz hpc w hw he s1 hs q4 h2 _ rfl q5
    rw [if_neg q5] at hq
    by_cases q6:CP w=27
    ·rw [if_pos q6] at hq;subst hq
     dsimp only
     cases he2:(I.mm.rd s1 (g (pF w 48) + BitVec.ofInt 64 (pN w))).2.1 with
     | none=>exact SC ok I g pc xt s hz hpc w hw he s1 hs q6 h2 _ rfl q5 he2
     | some e=>exact PD ok I g pc xt s hz hpc w hw he s1 hs q6 h2 _ rfl q5 e he2
    ·rw [if_neg q6] at hq;subst hq
     dsimp only
     have q6:CP w=28:=q4.resolve_left q6
     cases he2:(I.mm.wr s1 (g (pF w 48) + BitVec.ofInt 64 (pN w)) (g (pF w 44))).1 with
     | none=>exact RB ok I g pc xt s hz hpc w hw he s1 hs q6 h2 _ rfl q5 he2
     | some e=>exact Oo ok I g pc xt s hz hpc w hw he s1 hs q6 h2 _ rfl q5 e he2
   rw [if_neg q4] at hq
   by_cases q7:CP w < 34
   ·rw [if_pos q7] at hq;subst hq
    exact Oc ok I g pc xt s hz hpc w hw he s1 hs (CP w) Aa rfl h2
   rw [if_neg q7] at hq
   by_cases q8:CP w=34
   ·dsimp only at hq
    rw [q8] at hq
    by_cases q9:(wi (g (pF w 48)) 8#64 && wi (g (pF w 44)) 4#64)=false
    ·have:Tp I.mm 34 ⟨g,pc,false,xt⟩ s1 (g (pF w 48)) (g (pF w 44))=((⟨g,pc,false,xt⟩:Hd).stop Bn,none,s1):=by rw [Tp,if_pos];exact q9
     rw [this] at hq;subst hq
     exact Kg ok I g pc xt s hz hpc w hw he s1 hs q8 h2 q9
    ·simp only [Bool.not_eq_false,Bool.and_eq_true] at q9
     exact LD ok I g pc xt s hz hpc w hw he s1 hs q8 h2 q9.1 q9.2 q hq
   ·have q8:CP w=35:=Aa
    dsimp only at hq
    rw [q8] at hq
    by_cases q9:(wi (g (pF w 48)) 4#64 && wi (g (pF w 44)) 8#64)=false
    ·have:Tp I.mm 35 ⟨g,pc,false,xt⟩ s1 (g (pF w 48)) (g (pF w 44))=((⟨g,pc,false,xt⟩:Hd).stop Bn,none,s1):=by rw [Tp,if_pos];exact q9
     rw [this] at hq;subst hq
     exact Kw ok I g pc xt s hz hpc w hw he s1 hs q8 h2 q9
    ·simp only [Bool.not_eq_false,Bool.and_eq_true] at q9
     exact Lz ok I g pc xt s hz hpc w hw he s1 hs q8 h2 q9.1 q9.2 q hq
variable {M:Seat}
structure OkOs (M:Seat):Prop where
 q:OkQ M
 d:OkD M
 c:OkCk M
 p:OkPr M
 k97:Au M 97 f97=true
 k98:Au M 98 f98=true
def BI (root:Dg) (h:Hd) (l:List Pf) (pre:Pr):V:=.st 116 (.fcons 0 (dg root) (.fcons 32 h.v (.fcons 51 (.lst 2 l.length (HC l)) (.fcons 52 (Bk pre) .fnil))))
def Mc.h (m:Mc):Hd:=⟨m.g,m.pc,m.hl,m.xt⟩
def Yb (m:Mc) (e:Option Int) (l:List Pf) (pre:Pr):V:=match e with
 | none=>Ah (BI (Dp m.f 13 0) m.h l pre) .nili
 | some n=>Ah (BI Dg.zero ⟨fun _=>0#64,0#64,false,0#64⟩ [] Pr.zero) (.ifc 74 (.int .i64 n))
def Lbm:=(Db @Hd.v.eq_1 @Mc.h.eq_1 @AM.eq_1 @Yb.eq_1 @Yb.eq_2 @BI.eq_1)
def Kt (va:V):V:=.st 4 (.fcons 0 (.map 2) (.fcons 1 (.ptr 3 []) (.fcons 2 (.map 4) (.fcons 3 va .fnil))))
def Lca:=(GM @LM @Lbm @Lbv @List.length_nil.{0} @Kt.eq_1)
theorem PR (ok:OkOs M) (f g:Nat→BitVec 64) (pc xt:BitVec 64) (pres:List (Dg × Pr)) (q:Nat) :
 Ag M 97 [.ptr 0 [],.ptr 1 []] [(0,A3 f g pc true xt),(1,Kt (.nils)),(2,BR Bk Pr.zero pres)] 5
  (Q3 (Yb ⟨f,g,pc,true,xt⟩ none [] Pr.zero) [(0,A3 f g pc true xt),(1,Kt (.nils)),(2,BR Bk Pr.zero pres)] 5):=by
 refine Ab ok.k97 rfl fun x hx=>?_
 have hN:Ag M 241 [AM g pc true xt,.ifc 422 (.ptr 0 [])] [(0,GL .nils Pr.zero),(1,A3 f g pc true xt),(2,stP (.nils)),(3,BR Bk Pr.zero pres)] 6 (Q3 (Ah (AM g pc true xt) .nili) [(0,GL .nils Pr.zero),(1,A3 f g pc true xt),(2,stP (.nils)),(3,BR Bk Pr.zero pres)] (6 + 1)) :=
  KG ok.q (Acq ok.q.okA ok.q.ok ok.p g pc true xt pres q) g pc xt ⟨f,[],Pr.zero⟩
 refine es 2000 ?_;(simp only [f97,c97,LZ,seval])
 have zz:=@A3.eq_1;refine Kb (Hj ok.q.okA f g pc true xt) ?_
 (simp only [BH,Zl,LZ,seval])
 have zz:=Bb @A3.eq_1 @AM.eq_1;refine Ce (Ft ok.d f g pc true xt) ?_
 (simp only [AH,AM,seval])
 have zz:=Bb @A3.eq_1 @dg.eq_1;refine Ce (El ok.q.okA f g pc true xt) ?_
 (simp only [AH,seval])
 have zz:=C4 Zz @Kt.eq_1 @J3;refine Bw [197,149,1,2,3,4] [197,149,1,2] (hN) ?_
 (simp only [NC,Zz,BH,seval])
 have zz:=Bb Lca @dg.eq_1;exact Bf hx [0,1,2,3,4] ⟨rfl,rfl,rfl⟩
theorem NA (ok:OkOs M) (f g:Nat→BitVec 64) (pc xt:BitVec 64) (hpc:8192#64≤pc) (pres:List (Dg × Pr)) (q:Nat) :
 Ag M 97 [.ptr 0 [],.ptr 1 []] [(0,A3 f g pc false xt),(1,Kt (.nils)),(2,BR Bk Pr.zero pres)] 5
  (Q3 (Yb ⟨f,g,pc,false,xt⟩ none [] Pr.zero) [(0,A3 f g pc false xt),(1,Kt (.nils)),(2,BR Bk Pr.zero pres)] 5):=by
 refine Ab ok.k97 rfl fun x hx=>?_
 have hN:Ag M 241 [AM g pc false xt,.ifc 422 (.ptr 0 [])] [(0,GL .nils Pr.zero),(1,A3 f g pc false xt),(2,stP (.nils)),(3,BR Bk Pr.zero pres)] 6 (Q3 (Ah (AM g pc true Bn) .nili) [(0,GL .nils Pr.zero),(1,A3 f g pc false xt),(2,stP (.nils)),(3,BR Bk Pr.zero pres)] (6 + 1)) :=
  Ji ok.q (Acq ok.q.okA ok.q.ok ok.p g pc false xt pres q) g pc xt ⟨f,[],Pr.zero⟩ hpc
 refine es 2000 ?_;(simp only [f97,c97,LZ,seval])
 have zz:=@A3.eq_1;refine Kb (Hj ok.q.okA f g pc false xt) ?_
 (simp only [BH,Zl,LZ,seval])
 have zz:=Bb @A3.eq_1 @AM.eq_1;refine Ce (Ft ok.d f g pc false xt) ?_
 (simp only [AH,AM,seval])
 have zz:=Bb @A3.eq_1 @dg.eq_1;refine Ce (El ok.q.okA f g pc false xt) ?_
 (simp only [AH,seval])
 have zz:=C4 Zz @Kt.eq_1 @J3;refine Bw [197,149,1,2,3,4] [197,149,1,2] (hN) ?_
 (simp only [NC,Zz,BH,seval])
 have zz:=Bb Lca @dg.eq_1;exact Bf hx [0,1,2,3,4] ⟨rfl,rfl,rfl⟩
theorem Sb (ok:OkOs M) (f g:Nat→BitVec 64) (pc xt:BitVec 64) (hpc:¬ 8192#64≤pc) (pres:List (Dg × Pr)) (q:Nat) (h1:Hd) (e:Option Int) (s1:Ps) (hq:nx (SP pres) ⟨g,pc,false,xt⟩ ⟨f,[],Pr.zero⟩=(h1,e,s1)) :
 Ag M 97 [.ptr 0 [],.ptr 1 []] [(0,A3 f g pc false xt),(1,Kt (.nils)),(2,BR Bk Pr.zero pres)] 5
  (Q3 (Yb ⟨f,g,pc,false,xt⟩ e s1.l s1.pre) [(0,A3 f g pc false xt),(1,Kt (.nils)),(2,BR Bk Pr.zero pres)] 5):=by
 refine Ab ok.k97 rfl fun x hx=>?_
 obtain ⟨g1,pc1,hl1,xt1⟩:=h1
 obtain ⟨f1,l1,pre1⟩:=s1
 have hN:Ag M 241 [AM g pc false xt,.ifc 422 (.ptr 0 [])] [(0,GL .nils Pr.zero),(1,A3 f g pc false xt),(2,stP (.nils)),(3,BR Bk Pr.zero pres)] 6 (Q3 (Ah (AM g1 pc1 hl1 xt1) (B7 e)) [(0,GL (.sl 6 [] 0 l1.length 2) pre1),(1,A3 f1 g pc false xt),(2,stP (.nils)),(3,BR Bk Pr.zero pres),(6,.ar 2 l1.length (HC l1))] (6 + 1)) :=
  K5 ok.q (Acq ok.q.okA ok.q.ok ok.p g pc false xt pres q) ⟨g,pc,false,xt⟩ ⟨f,[],Pr.zero⟩ rfl rfl hpc _ hq
 refine es 2000 ?_;(simp only [f97,c97,LZ,seval])
 have zz:=@A3.eq_1;refine Kb (Hj ok.q.okA f g pc false xt) ?_
 (simp only [BH,Zl,LZ,seval])
 have zz:=Bb @A3.eq_1 @AM.eq_1;refine Ce (Ft ok.d f g pc false xt) ?_
 (simp only [AH,AM,seval])
 have zz:=Bb @A3.eq_1 @dg.eq_1;refine Ce (El ok.q.okA f g pc false xt) ?_
 (simp only [AH,seval])
 cases e with
 | none =>
   have zz:=C4 Zz @Kt.eq_1 @J3;refine Bw [197,149,1,2,3,4] [197,149,1,2] (hN) ?_
   (simp only [Oh,Zz,B0,BH,seval])
   refine Ar.mk hx [0,1,2,3,4] [533] (Yb ⟨f,g,pc,false,xt⟩ none l1 pre1) [(0,A3 f g pc false xt),(1,Kt (.nils)),(2,BR Bk Pr.zero pres)] 5 Am (by (simp only [LV,EE,seval])) ?_ ?_ ⟨rfl,rfl,rfl⟩
   ·simp only [LV,Lbm,NC,dg,Fz,seval]
    refine ⟨by rfl,fun i hi=>?_⟩
    try rw [Nat.zero_add]
    exact Q5 _ _ _ _
   ·simp only [Kt,Fz,seval]
 | some n =>
   have zz:=C4 Zz @Kt.eq_1 @J3;refine Bw [197,149,1,2,3,4] [197,149,1,2] (hN) ?_
   (simp only [Oh,Zz,Aw,BH,Zl,seval])
   have zz:=Bb Lca Lbc;exact Bf hx [0,1,2,3,4] ⟨rfl,rfl,rfl⟩
def vfE (c:Ck) (h:Hd):Dg × Option Int:=if c.l=[] then (Ch c.root (DT h.g h.pc h.hl h.xt),none) else (Dg.zero,some 3)
def vfX (e:Option Int) (c:Ck) (h:Hd):Dg × Option Int:=match e with
 | some n=>(Dg.zero,some n)
 | none=>vfE c h
def vfy (claim root:Dg) (h:Hd) (l:List Pf) (pre:Pr):Dg × Option Int :=
 if ¬ Ch root (DT h.g h.pc h.hl h.xt)=claim then (Dg.zero,some 31)
 else if h.hl=true then vfE ⟨root,l,pre⟩ h
 else if 8192#64≤h.pc then vfE ⟨root,l,pre⟩ (h.stop Bn)
 else vfX (nx ckM h ⟨root,l,pre⟩).2.1 (nx ckM h ⟨root,l,pre⟩).2.2 (nx ckM h ⟨root,l,pre⟩).1
theorem Pt (ok:OkOs M) (claim root:Dg) (g:Nat→BitVec 64) (pc:BitVec 64) (hl:Bool) (xt:BitVec 64) (l:List Pf) (pre:Pr) (hc:¬ Ch root (DT g pc hl xt)=claim) :
 Ag M 98 [dg claim,BI root ⟨g,pc,hl,xt⟩ l pre] [] 0 (Q3 (Ah (dg Dg.zero) (B7 (some 31))) [] 0):=by
 refine Ab ok.k98 rfl fun x hx=>?_
 refine es 2000 ?_;(simp only [f98,c98,BI,Hd.v,AM,EE,seval])
 have zz:=Bb @dg.eq_1 @AM.eq_1;refine G0 (Dj ok.q.okA ok.d root g pc hl xt) ?_
 (simp only [eq_false hc,EE,Ws,seval])
 have zz:=C4 @Aw @dg.eq_1 @LM;exact Bf hx [] ⟨rfl,rfl,rfl⟩
theorem Jq (ok:OkOs M) (root:Dg) (g:Nat→BitVec 64) (pc:BitVec 64) (hl:Bool) (xt:BitVec 64) (l:List Pf) (pre:Pr) (g1:Nat→BitVec 64) (pc1:BitVec 64) (hl1:Bool) (xt1:BitVec 64) (e:Option Int) (c1:Ck)
 (hN:Ag M 241 [AM g pc hl xt,.ifc 426 (.ptr 0 [])] [(0,(⟨root,l,pre⟩:Ck).vv)] 1 (Q3 (Ah (AM g1 pc1 hl1 xt1) (B7 e)) [(0,c1.vv)] 2)) (q:Dg × Option Int) (hq:vfX e c1 ⟨g1,pc1,hl1,xt1⟩=q) :
 Ag M 98 [dg (Ch root (DT g pc hl xt)),BI root ⟨g,pc,hl,xt⟩ l pre] [] 0 (Q3 (Ah (dg q.1) (B7 q.2)) [] 0):=by
 refine Ab ok.k98 rfl fun x hx=>?_
 obtain ⟨root1,l1,pre1⟩:=c1
 cases e with
 | some n =>
   have hq:(Dg.zero,some n)=q:=hq
   subst hq
   refine es 2000 ?_;(simp only [f98,c98,BI,Hd.v,AM,EE,seval])
   have zz:=Bb @dg.eq_1 @AM.eq_1;refine G0 (Dj ok.q.okA ok.d root g pc hl xt) ?_
   (simp only [EE,seval])
   have zz:=Ka @Ck.vv.eq_1 @AM.eq_1 @dg.eq_1 Fs;refine Bw [400] [400] (hN) ?_
   (simp only [Ck.vv,Oh,AM,Aw,Ws,seval])
   have zz:=C4 @Aw @dg.eq_1 @LM;exact Bf hx [] ⟨rfl,rfl,rfl⟩
 | none =>
   have hq:vfE ⟨root1,l1,pre1⟩ ⟨g1,pc1,hl1,xt1⟩=q:=hq
   cases l1 with
   | nil =>
     rw [vfE,if_pos rfl] at hq
     subst hq
     refine es 2000 ?_;(simp only [f98,c98,BI,Hd.v,AM,EE,seval])
     have zz:=Bb @dg.eq_1 @AM.eq_1;refine G0 (Dj ok.q.okA ok.d root g pc hl xt) ?_
     (simp only [EE,seval])
     have zz:=Ka @Ck.vv.eq_1 @AM.eq_1 @dg.eq_1 Fs;refine Bw [400] [400] (hN) ?_
     (simp only [Ck.vv,Oh,AM,B0,Ws,List.length_nil,seval])
     have zz:=Bb @dg.eq_1 @AM.eq_1;refine G0 (Dj ok.q.okA ok.d root1 g1 pc1 hl1 xt1) ?_
     (simp only [EE,seval])
     have zz:=C4 @B0 @dg.eq_1 @LM;exact Bf hx [] ⟨rfl,rfl,rfl⟩
   | cons p l1 =>
     rw [vfE,if_neg B5] at hq
     subst hq
     have h0:((0:Int) < ((l1.length + 1:Nat):Int))=True:=eq_true Aa
     refine es 2000 ?_;(simp only [f98,c98,BI,Hd.v,AM,EE,seval])
     have zz:=Bb @dg.eq_1 @AM.eq_1;refine G0 (Dj ok.q.okA ok.d root g pc hl xt) ?_
     (simp only [EE,seval])
     have zz:=Ka @Ck.vv.eq_1 @AM.eq_1 @dg.eq_1 Fs;refine Bw [400] [400] (hN) ?_
     (simp only [Ck.vv,Oh,AM,B0,Ws,List.length_cons,h0,seval])
     have zz:=C4 @Aw @dg.eq_1 @LM;exact Bf hx [] ⟨rfl,rfl,rfl⟩
theorem H6 (ok:OkOs M) (claim root:Dg) (h:Hd) (l:List Pf) (pre:Pr) :
 Ag M 98 [dg claim,BI root h l pre] [] 0 (Q3 (Ah (dg (vfy claim root h l pre).1) (B7 (vfy claim root h l pre).2)) [] 0):=by
 obtain ⟨g,pc,hl,xt⟩:=h
 unfold vfy
 by_cases hc:Ch root (DT g pc hl xt)=claim
 ·rw [if_neg (fun h=>h hc)]
  subst hc
  cases hl with
  | true =>
    rw [if_pos rfl]
    exact Jq ok root g pc true xt l pre g pc true xt none ⟨root,l,pre⟩ (KG ok.q (ckI ok.q.okA ok.q.ok.toOkH ok.c) g pc xt ⟨root,l,pre⟩) _ rfl
  | false =>
    rw [if_neg B5]
    by_cases hpc:8192#64≤pc
    ·rw [if_pos hpc]
     exact Jq ok root g pc false xt l pre g pc true Bn none ⟨root,l,pre⟩ (Ji ok.q (ckI ok.q.okA ok.q.ok.toOkH ok.c) g pc xt ⟨root,l,pre⟩ hpc) _ rfl
    ·rw [if_neg hpc]
     generalize hq:nx ckM ⟨g,pc,false,xt⟩ ⟨root,l,pre⟩=q
     obtain ⟨⟨g1,pc1,hl1,xt1⟩,e,c1⟩:=q
     exact Jq ok root g pc false xt l pre g1 pc1 hl1 xt1 e c1 (K5 ok.q (ckI ok.q.okA ok.q.ok.toOkH ok.c) ⟨g,pc,false,xt⟩ ⟨root,l,pre⟩ trivial rfl hpc _ hq) _ rfl
 ·rw [if_pos hc]
  exact Pt ok claim root g pc hl xt l pre hc
def Mc.com (m:Mc):Dg:=Ac7 m.f m.g m.pc m.hl m.xt
def CV (pres:List (Dg × Pr)) (m:Mc):Option Int × List Pf × Pr :=
 if m.hl=true then (none,[],Pr.zero) else if 8192#64≤m.pc then (none,[],Pr.zero)
 else ((nx (SP pres) m.h ⟨m.f,[],Pr.zero⟩).2.1,(nx (SP pres) m.h ⟨m.f,[],Pr.zero⟩).2.2.l,(nx (SP pres) m.h ⟨m.f,[],Pr.zero⟩).2.2.pre)
theorem S3 {M:Seat} (ok:OkOs M) (m:Mc) (pres:List (Dg × Pr)) (q:Nat) :
 Ag M 97 [.ptr 0 [],.ptr 1 []] [(0,m.v),(1,Kt (.nils)),(2,BR Bk Pr.zero pres)] 5
  (Q3 (Yb m (CV pres m).1 (CV pres m).2.1 (CV pres m).2.2) [(0,m.v),(1,Kt (.nils)),(2,BR Bk Pr.zero pres)] 5):=by
 obtain ⟨f,g,pc,hl,xt⟩:=m
 unfold CV
 cases hl with
 | true=>rw [if_pos rfl];exact PR ok f g pc xt pres q
 | false =>
   rw [if_neg B5]
   by_cases hpc:8192#64≤pc
   ·rw [if_pos hpc];exact NA ok f g pc xt hpc pres q
   ·rw [if_neg hpc]
    generalize hq:nx (SP pres) (⟨f,g,pc,false,xt⟩:Mc).h ⟨f,[],Pr.zero⟩=r
    obtain ⟨h1,e,s1⟩:=r
    exact Sb ok f g pc xt hpc pres q h1 e s1 hq
def tw:Nat→BitVec 64
 | 0=>QJ 26 1 0 0 0 1
 | 1=>QJ 1 2 2 1 0 0
 | 2=>QJ 28 0 2 2 0 40
 | 3=>QJ 29 0 0 0 0 1
 | _=>0#64
def tst (m:Mc):Mc :=
 if m.pc=0#64 then ⟨m.f,FI m.g 1 1#64,1#64,false,m.xt⟩
 else if m.pc=1#64 then ⟨m.f,FI m.g 2 (m.g 2 + m.g 1),2#64,false,m.xt⟩
 else if m.pc=2#64 then ⟨FI m.f (m.g 2 + 40#64).toNat (m.g 2),m.g,3#64,false,m.xt⟩
 else ⟨m.f,m.g,1#64,false,m.xt⟩
structure Cnt (m:Mc) (i:Nat):Prop where
 hl:m.hl=false
 pc:m.pc=0#64 ∨ m.pc=1#64 ∨ m.pc=2#64 ∨ m.pc=3#64
 w:∀ j,j < 4→m.f j=tw j
 g1:(m.g 1).toNat≤1
 g2:(m.g 2).toNat≤i
theorem PL {M:Seat} (ok:OkW M) (m:Mc) (i:Nat) (hi:i < 1000) (h:Cnt m i):Mz M m (tst m)∧Cnt (tst m) (i + 1)∧∀ pres,(CV pres m).1=none:=by
 obtain ⟨f,g,pc,hl,xt⟩:=m
 obtain ⟨rfl,hpc,hw,h1,h2⟩:=h
 dsimp only at hpc hw h1 h2
 have hg2:(g 2 + g 1).toNat≤i + 1:=by rw [BitVec.toNat_add];omega
 rcases hpc with rfl | rfl | rfl | rfl
 ·refine ⟨?_,⟨rfl,.inr (.inl rfl),hw,?_,?_⟩,fun pres=>?_⟩
  ·have hS:=Np ok.toOkI.toOkV f g 0#64 xt Am (tw 0) (hw 0 Am) Am Am
   rw [show pF (tw 0) 52=1 by decide,show BitVec.ofInt 64 (pN (tw 0))=1#64 by decide] at hS
   exact hS
  ·show (FI g 1 1#64 1).toNat≤1
   rw [FI,if_pos rfl];decide
  ·show (FI g 1 1#64 2).toNat≤i + 1
   rw [FI,if_neg Am];omega
  ·rw [CV,if_neg B5,if_neg (show ¬ 8192#64≤(_:BitVec 64) by dsimp only;decide)]
   show (Wy (SP pres) _ (f 0) ⟨f,[Da f 0#64],Pr.zero⟩).2.1=none
   rw [hw 0 Am,Wy,if_neg Am,if_neg Am,if_neg Am,if_pos Am]
 ·refine ⟨?_,⟨rfl,.inr (.inr (.inl rfl)),hw,?_,?_⟩,fun pres=>?_⟩
  ·have hS:=Lr ok f g 1#64 xt Am (tw 1) (hw 1 Am) Am Am
   rw [show pF (tw 1) 52=2 by decide,show pF (tw 1) 48=2 by decide,show pF (tw 1) 44=1 by decide] at hS
   exact hS
  ·show (FI g 2 (g 2 + g 1) 1).toNat≤1
   rw [FI,if_neg Am];exact h1
  ·show (FI g 2 (g 2 + g 1) 2).toNat≤i + 1
   rw [FI,if_pos rfl];exact hg2
  ·rw [CV,if_neg B5,if_neg (show ¬ 8192#64≤(_:BitVec 64) by dsimp only;decide)]
   show (Wy (SP pres) _ (f 1) ⟨f,[Da f 1#64],Pr.zero⟩).2.1=none
   rw [hw 1 Am,Wy,if_neg Am,if_neg Am,if_pos Am]
 ·have e40:(g 2 + 40#64).toNat=(g 2).toNat + 40:=by rw [BitVec.toNat_add];simp;omega
  have hlt:¬ 8192#64≤g 2 + 40#64:=by rw [BitVec.le_def,e40];simp;omega
  refine ⟨?_,⟨rfl,.inr (.inr (.inr rfl)),fun j hj=>?_,h1,?_⟩,fun pres=>?_⟩
  ·have hS:=Jl ok.toOkI.toOkV f g 2#64 xt Am (tw 2) (hw 2 Am) Am Am (g 2 + 40#64) (by rw [show pF (tw 2) 48=2 by decide,show BitVec.ofInt 64 (pN (tw 2))=40#64 by decide]) hlt
   rw [show pF (tw 2) 44=2 by decide] at hS
   exact hS
  ·show FI f (g 2 + 40#64).toNat (g 2) j=tw j
   rw [FI,if_neg Aa];exact hw j hj
  ·show (g 2).toNat≤i + 1
   omega
  ·rw [CV,if_neg B5,if_neg (show ¬ 8192#64≤(_:BitVec 64) by dsimp only;decide)]
   show (Wy (SP pres) _ (f 2) ⟨f,[Da f 2#64],Pr.zero⟩).2.1=none
   rw [hw 2 Am,Wy,if_neg Am,if_neg Am,if_neg Am,if_neg Am,if_pos Am]
   rw [show pF (tw 2) 48=2 by decide,show BitVec.ofInt 64 (pN (tw 2))=40#64 by decide]
   simp only [Mc.h,hlt,if_false]
   rw [if_neg (show ¬ CP (tw 2)=27 by decide)]
   rfl
 ·refine ⟨?_,⟨rfl,.inr (.inl rfl),hw,h1,?_⟩,fun pres=>?_⟩
  ·have hS:=Kn ok.toOkI.toOkV 29 (.inl rfl) f g 3#64 xt Am (tw 3) (hw 3 Am) Am Am
   rw [show BitVec.ofInt 64 (pN (tw 3))=1#64 by decide] at hS
   exact hS
  ·show (g 2).toNat≤i + 1
   omega
  ·rw [CV,if_neg B5,if_neg (show ¬ 8192#64≤(_:BitVec 64) by dsimp only;decide)]
   show (Wy (SP pres) _ (f 3) ⟨f,[Da f 3#64],Pr.zero⟩).2.1=none
   rw [hw 3 Am,Wy,if_neg Am,if_neg Am,if_neg Am,if_neg Am,if_neg Am,if_pos Am]
def tm:Nat→Mc
 | 0=>⟨YH 4 tw,fun _=>0#64,0#64,false,0#64⟩
 | i + 1=>tst (tm i)
theorem Pk {M:Seat} (ok:OkW M):∀ i,i < 1000→Cnt (tm i) i
 | 0,_=>⟨rfl,.inl rfl,fun j hj=>if_pos hj,by decide,by decide⟩
 | i + 1,h=>(PL ok (tm i) i Aa (Pk ok i Aa)).2.1
end Mv
