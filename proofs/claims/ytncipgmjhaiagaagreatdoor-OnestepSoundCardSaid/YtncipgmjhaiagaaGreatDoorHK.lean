/- A part. -/
import Derived.Test.YtncipgmjhaiagaaGreatDoorHJ
set_option linter.all false
set_option maxRecDepth 20000
set_option maxHeartbeats 4000000
namespace Mv
open Go
variable {M:Seat}
structure OkOs (M:Seat):Prop where
 q:OkQ M
 d:OkD M
 c:OkCk M
 p:OkPr M
 k97:Al M 97 f97=true
 k98:Al M 98 f98=true
def Vf (root:Dg) (h:Hd) (l:List Pf) (pre:Pr):V:=.st 116 (.fcons 0 (dg root) (.fcons 32 h.v (.fcons 51 (.lst 2 l.length (Dz l)) (.fcons 52 (At pre) .fnil))))
def Mc.h (m:Mc):Hd:=⟨m.g,m.pc,m.hl,m.xt⟩
def TO (m:Mc) (e:Option Int) (l:List Pf) (pre:Pr):V:=match e with
 | none=>Ao (Vf (Bm m.f 13 0) m.h l pre) .nili
 | some n=>Ao (Vf Dg.zero ⟨fun _=>0#64,0#64,false,0#64⟩ [] Pr.zero) (.ifc 74 (.int .i64 n))
def Lbm:=(aq6 @Hd.v.eq_1 @Mc.h.eq_1 @AU.eq_1 @TO.eq_1 @TO.eq_2 @Vf.eq_1)
def EA (va:V):V:=.st 4 (.fcons 0 (.map 2) (.fcons 1 (.ptr 3 []) (.fcons 2 (.map 4) (.fcons 3 va .fnil))))
def Lca:=(aq5 @LM @Lbm @PR @List.length_nil.{0} @EA.eq_1)
theorem Qy (ok:OkOs M) (f g:Nat→BitVec 64) (pc xt:BitVec 64) (pres:List (Dg × Pr)) (q:Nat) :
 Af M 97 [.ptr 0 [],.ptr 1 []] [(0,mach f g pc true xt),(1,EA (.nils)),(2,Bv At Pr.zero pres)] 5
  (Q3 (TO ⟨f,g,pc,true,xt⟩ none [] Pr.zero) [(0,mach f g pc true xt),(1,EA (.nils)),(2,Bv At Pr.zero pres)] 5):=by
 refine Ac ok.k97 rfl fun x hx=>?_
 have hN:Af M 241 [AU g pc true xt,.ifc 422 (.ptr 0 [])] [(0,Dc .nils Pr.zero),(1,mach f g pc true xt),(2,CU (.nils)),(3,Bv At Pr.zero pres)] 6 (Q3 (Ao (AU g pc true xt) .nili) [(0,Dc .nils Pr.zero),(1,mach f g pc true xt),(2,CU (.nils)),(3,Bv At Pr.zero pres)] (6 + 1)) :=
  IB ok.q (Ait ok.q.okA ok.q.ok ok.p g pc true xt pres q) g pc xt ⟨f,[],Pr.zero⟩
 refine es 2000 ?_;(simp only [f97,c97,LZ,seval])
 have zz:=@mach.eq_1;refine El (D9 ok.q.okA f g pc true xt) ?_
 (simp only [Bp,SD,LZ,seval])
 have zz:=aq2 @mach.eq_1 @AU.eq_1;refine CI (Cl ok.d f g pc true xt) ?_
 (simp only [Cb,AU,seval])
 have zz:=aq2 @mach.eq_1 @dg.eq_1;refine CI (C9 ok.q.okA f g pc true xt) ?_
 (simp only [Cb,seval])
 have zz:=aq3 Qi @EA.eq_1 @C6;refine IJ [197,149,1,2,3,4] [197,149,1,2] (hN) ?_
 (simp only [Gw,Qi,Bp,seval])
 have zz:=aq2 Lca @dg.eq_1;exact Bg hx [0,1,2,3,4] ⟨rfl,rfl,rfl⟩
theorem O9 (ok:OkOs M) (f g:Nat→BitVec 64) (pc xt:BitVec 64) (hpc:8192#64≤pc) (pres:List (Dg × Pr)) (q:Nat) :
 Af M 97 [.ptr 0 [],.ptr 1 []] [(0,mach f g pc false xt),(1,EA (.nils)),(2,Bv At Pr.zero pres)] 5
  (Q3 (TO ⟨f,g,pc,false,xt⟩ none [] Pr.zero) [(0,mach f g pc false xt),(1,EA (.nils)),(2,Bv At Pr.zero pres)] 5):=by
 refine Ac ok.k97 rfl fun x hx=>?_
 have hN:Af M 241 [AU g pc false xt,.ifc 422 (.ptr 0 [])] [(0,Dc .nils Pr.zero),(1,mach f g pc false xt),(2,CU (.nils)),(3,Bv At Pr.zero pres)] 6 (Q3 (Ao (AU g pc true Ap) .nili) [(0,Dc .nils Pr.zero),(1,mach f g pc false xt),(2,CU (.nils)),(3,Bv At Pr.zero pres)] (6 + 1)) :=
  GK ok.q (Ait ok.q.okA ok.q.ok ok.p g pc false xt pres q) g pc xt ⟨f,[],Pr.zero⟩ hpc
 refine es 2000 ?_;(simp only [f97,c97,LZ,seval])
 have zz:=@mach.eq_1;refine El (D9 ok.q.okA f g pc false xt) ?_
 (simp only [Bp,SD,LZ,seval])
 have zz:=aq2 @mach.eq_1 @AU.eq_1;refine CI (Cl ok.d f g pc false xt) ?_
 (simp only [Cb,AU,seval])
 have zz:=aq2 @mach.eq_1 @dg.eq_1;refine CI (C9 ok.q.okA f g pc false xt) ?_
 (simp only [Cb,seval])
 have zz:=aq3 Qi @EA.eq_1 @C6;refine IJ [197,149,1,2,3,4] [197,149,1,2] (hN) ?_
 (simp only [Gw,Qi,Bp,seval])
 have zz:=aq2 Lca @dg.eq_1;exact Bg hx [0,1,2,3,4] ⟨rfl,rfl,rfl⟩
theorem U6 (ok:OkOs M) (f g:Nat→BitVec 64) (pc xt:BitVec 64) (hpc:¬ 8192#64≤pc) (pres:List (Dg × Pr)) (q:Nat) (h1:Hd) (e:Option Int) (s1:Ps) (hq:nx (Fc pres) ⟨g,pc,false,xt⟩ ⟨f,[],Pr.zero⟩=(h1,e,s1)) :
 Af M 97 [.ptr 0 [],.ptr 1 []] [(0,mach f g pc false xt),(1,EA (.nils)),(2,Bv At Pr.zero pres)] 5
  (Q3 (TO ⟨f,g,pc,false,xt⟩ e s1.l s1.pre) [(0,mach f g pc false xt),(1,EA (.nils)),(2,Bv At Pr.zero pres)] 5):=by
 refine Ac ok.k97 rfl fun x hx=>?_
 obtain ⟨g1,pc1,hl1,xt1⟩:=h1
 obtain ⟨f1,l1,pre1⟩:=s1
 have hN:Af M 241 [AU g pc false xt,.ifc 422 (.ptr 0 [])] [(0,Dc .nils Pr.zero),(1,mach f g pc false xt),(2,CU (.nils)),(3,Bv At Pr.zero pres)] 6 (Q3 (Ao (AU g1 pc1 hl1 xt1) (Cw e)) [(0,Dc (.sl 6 [] 0 l1.length 2) pre1),(1,mach f1 g pc false xt),(2,CU (.nils)),(3,Bv At Pr.zero pres),(6,.ar 2 l1.length (Dz l1))] (6 + 1)) :=
  I2 ok.q (Ait ok.q.okA ok.q.ok ok.p g pc false xt pres q) ⟨g,pc,false,xt⟩ ⟨f,[],Pr.zero⟩ rfl rfl hpc _ hq
 refine es 2000 ?_;(simp only [f97,c97,LZ,seval])
 have zz:=@mach.eq_1;refine El (D9 ok.q.okA f g pc false xt) ?_
 (simp only [Bp,SD,LZ,seval])
 have zz:=aq2 @mach.eq_1 @AU.eq_1;refine CI (Cl ok.d f g pc false xt) ?_
 (simp only [Cb,AU,seval])
 have zz:=aq2 @mach.eq_1 @dg.eq_1;refine CI (C9 ok.q.okA f g pc false xt) ?_
 (simp only [Cb,seval])
 cases e with
 | none =>
   have zz:=aq3 Qi @EA.eq_1 @C6;refine IJ [197,149,1,2,3,4] [197,149,1,2] (hN) ?_
   (simp only [LW,Qi,Bz,Bp,seval])
   refine Aq.mk hx [0,1,2,3,4] [533] (TO ⟨f,g,pc,false,xt⟩ none l1 pre1) [(0,mach f g pc false xt),(1,EA (.nils)),(2,Bv At Pr.zero pres)] 5 Ak (by (simp only [LV,BA,seval])) ?_ ?_ ⟨rfl,rfl,rfl⟩
   ·simp only [LV,Lbm,Gw,dg,CF,seval]
    refine ⟨by rfl,fun i hi=>?_⟩
    try rw [Nat.zero_add]
    exact N4 _ _ _ _
   ·simp only [EA,CF,seval]
 | some n =>
   have zz:=aq3 Qi @EA.eq_1 @C6;refine IJ [197,149,1,2,3,4] [197,149,1,2] (hN) ?_
   (simp only [LW,Qi,Av,Bp,SD,seval])
   have zz:=aq2 Lca OS;exact Bg hx [0,1,2,3,4] ⟨rfl,rfl,rfl⟩
theorem QZ (ok:OkOs M) (f g:Nat→BitVec 64) (pc xt:BitVec 64) (pres:List (Dg × Pr)) (q:Nat) :
 Af M 97 [.ptr 0 [],.ptr 1 []] [(0,mach f g pc true xt),(1,EA (.sl 5 [] 0 q 32)),(2,Bv At Pr.zero pres)] 6
  (Q3 (TO ⟨f,g,pc,true,xt⟩ none [] Pr.zero) [(0,mach f g pc true xt),(1,EA (.sl 5 [] 0 q 32)),(2,Bv At Pr.zero pres)] 6):=by
 refine Ac ok.k97 rfl fun x hx=>?_
 have hN:Af M 241 [AU g pc true xt,.ifc 422 (.ptr 0 [])] [(0,Dc .nils Pr.zero),(1,mach f g pc true xt),(2,CU (.sl 6 [] 0 q 32)),(3,Bv At Pr.zero pres)] 7 (Q3 (Ao (AU g pc true xt) .nili) [(0,Dc .nils Pr.zero),(1,mach f g pc true xt),(2,CU (.sl 6 [] 0 q 32)),(3,Bv At Pr.zero pres)] (7 + 1)) :=
  IB ok.q (Aix ok.q.okA ok.q.ok ok.p g pc true xt pres q) g pc xt ⟨f,[],Pr.zero⟩
 refine es 2000 ?_;(simp only [f97,c97,LZ,seval])
 have zz:=@mach.eq_1;refine El (D9 ok.q.okA f g pc true xt) ?_
 (simp only [Bp,SD,LZ,seval])
 have zz:=aq2 @mach.eq_1 @AU.eq_1;refine CI (Cl ok.d f g pc true xt) ?_
 (simp only [Cb,AU,seval])
 have zz:=aq2 @mach.eq_1 @dg.eq_1;refine CI (C9 ok.q.okA f g pc true xt) ?_
 (simp only [Cb,seval])
 have zz:=aq3 Qi @EA.eq_1 @C6;refine IJ [198,150,1,2,3,4,5] [198,150,1,2] (hN) ?_
 (simp only [Gw,Qi,Bp,seval])
 have zz:=aq2 Lca @dg.eq_1;exact Bg hx [0,1,2,3,4,5] ⟨rfl,rfl,rfl⟩
theorem OX (ok:OkOs M) (f g:Nat→BitVec 64) (pc xt:BitVec 64) (hpc:8192#64≤pc) (pres:List (Dg × Pr)) (q:Nat) :
 Af M 97 [.ptr 0 [],.ptr 1 []] [(0,mach f g pc false xt),(1,EA (.sl 5 [] 0 q 32)),(2,Bv At Pr.zero pres)] 6
  (Q3 (TO ⟨f,g,pc,false,xt⟩ none [] Pr.zero) [(0,mach f g pc false xt),(1,EA (.sl 5 [] 0 q 32)),(2,Bv At Pr.zero pres)] 6):=by
 refine Ac ok.k97 rfl fun x hx=>?_
 have hN:Af M 241 [AU g pc false xt,.ifc 422 (.ptr 0 [])] [(0,Dc .nils Pr.zero),(1,mach f g pc false xt),(2,CU (.sl 6 [] 0 q 32)),(3,Bv At Pr.zero pres)] 7 (Q3 (Ao (AU g pc true Ap) .nili) [(0,Dc .nils Pr.zero),(1,mach f g pc false xt),(2,CU (.sl 6 [] 0 q 32)),(3,Bv At Pr.zero pres)] (7 + 1)) :=
  GK ok.q (Aix ok.q.okA ok.q.ok ok.p g pc false xt pres q) g pc xt ⟨f,[],Pr.zero⟩ hpc
 refine es 2000 ?_;(simp only [f97,c97,LZ,seval])
 have zz:=@mach.eq_1;refine El (D9 ok.q.okA f g pc false xt) ?_
 (simp only [Bp,SD,LZ,seval])
 have zz:=aq2 @mach.eq_1 @AU.eq_1;refine CI (Cl ok.d f g pc false xt) ?_
 (simp only [Cb,AU,seval])
 have zz:=aq2 @mach.eq_1 @dg.eq_1;refine CI (C9 ok.q.okA f g pc false xt) ?_
 (simp only [Cb,seval])
 have zz:=aq3 Qi @EA.eq_1 @C6;refine IJ [198,150,1,2,3,4,5] [198,150,1,2] (hN) ?_
 (simp only [Gw,Qi,Bp,seval])
 have zz:=aq2 Lca @dg.eq_1;exact Bg hx [0,1,2,3,4,5] ⟨rfl,rfl,rfl⟩
theorem Uq (ok:OkOs M) (f g:Nat→BitVec 64) (pc xt:BitVec 64) (hpc:¬ 8192#64≤pc) (pres:List (Dg × Pr)) (q:Nat) (h1:Hd) (e:Option Int) (s1:Ps) (hq:nx (Fc pres) ⟨g,pc,false,xt⟩ ⟨f,[],Pr.zero⟩=(h1,e,s1)) :
 Af M 97 [.ptr 0 [],.ptr 1 []] [(0,mach f g pc false xt),(1,EA (.sl 5 [] 0 q 32)),(2,Bv At Pr.zero pres)] 6
  (Q3 (TO ⟨f,g,pc,false,xt⟩ e s1.l s1.pre) [(0,mach f g pc false xt),(1,EA (.sl 5 [] 0 q 32)),(2,Bv At Pr.zero pres)] 6):=by
 refine Ac ok.k97 rfl fun x hx=>?_
 obtain ⟨g1,pc1,hl1,xt1⟩:=h1
 obtain ⟨f1,l1,pre1⟩:=s1
 have hN:Af M 241 [AU g pc false xt,.ifc 422 (.ptr 0 [])] [(0,Dc .nils Pr.zero),(1,mach f g pc false xt),(2,CU (.sl 6 [] 0 q 32)),(3,Bv At Pr.zero pres)] 7 (Q3 (Ao (AU g1 pc1 hl1 xt1) (Cw e)) [(0,Dc (.sl 7 [] 0 l1.length 2) pre1),(1,mach f1 g pc false xt),(2,CU (.sl 6 [] 0 q 32)),(3,Bv At Pr.zero pres),(7,.ar 2 l1.length (Dz l1))] (7 + 1)) :=
  I2 ok.q (Aix ok.q.okA ok.q.ok ok.p g pc false xt pres q) ⟨g,pc,false,xt⟩ ⟨f,[],Pr.zero⟩ rfl rfl hpc _ hq
 refine es 2000 ?_;(simp only [f97,c97,LZ,seval])
 have zz:=@mach.eq_1;refine El (D9 ok.q.okA f g pc false xt) ?_
 (simp only [Bp,SD,LZ,seval])
 have zz:=aq2 @mach.eq_1 @AU.eq_1;refine CI (Cl ok.d f g pc false xt) ?_
 (simp only [Cb,AU,seval])
 have zz:=aq2 @mach.eq_1 @dg.eq_1;refine CI (C9 ok.q.okA f g pc false xt) ?_
 (simp only [Cb,seval])
 cases e with
 | none =>
   have zz:=aq3 Qi @EA.eq_1 @C6;refine IJ [198,150,1,2,3,4,5] [198,150,1,2] (hN) ?_
   (simp only [LW,Qi,Bz,Bp,seval])
   refine Aq.mk hx [0,1,2,3,4,5] [534] (TO ⟨f,g,pc,false,xt⟩ none l1 pre1) [(0,mach f g pc false xt),(1,EA (.sl 5 [] 0 q 32)),(2,Bv At Pr.zero pres)] 6 Ak (by (simp only [LV,BA,seval])) ?_ ?_ ⟨rfl,rfl,rfl⟩
   ·simp only [LV,Lbm,Gw,dg,CF,seval]
    refine ⟨by rfl,fun i hi=>?_⟩
    try rw [Nat.zero_add]
    exact N4 _ _ _ _
   ·simp only [EA,CF,seval]
 | some n =>
   have zz:=aq3 Qi @EA.eq_1 @C6;refine IJ [198,150,1,2,3,4,5] [198,150,1,2] (hN) ?_
   (simp only [LW,Qi,Av,Bp,SD,seval])
   have zz:=aq2 Lca OS;exact Bg hx [0,1,2,3,4,5] ⟨rfl,rfl,rfl⟩
def YJ (c:Ck) (h:Hd):Dg × Option Int:=if c.l=[] then (B2 c.root (DV h.g h.pc h.hl h.xt),none) else (Dg.zero,some 3)
def vfX (e:Option Int) (c:Ck) (h:Hd):Dg × Option Int:=match e with
 | some n=>(Dg.zero,some n)
 | none=>YJ c h
def vfy (claim root:Dg) (h:Hd) (l:List Pf) (pre:Pr):Dg × Option Int :=
 if ¬ B2 root (DV h.g h.pc h.hl h.xt)=claim then (Dg.zero,some 31)
 else if h.hl=true then YJ ⟨root,l,pre⟩ h
 else if 8192#64≤h.pc then YJ ⟨root,l,pre⟩ (h.stop Ap)
 else vfX (nx Ix h ⟨root,l,pre⟩).2.1 (nx Ix h ⟨root,l,pre⟩).2.2 (nx Ix h ⟨root,l,pre⟩).1
theorem Q6 (ok:OkOs M) (claim root:Dg) (g:Nat→BitVec 64) (pc:BitVec 64) (hl:Bool) (xt:BitVec 64) (l:List Pf) (pre:Pr) (hc:¬ B2 root (DV g pc hl xt)=claim) :
 Af M 98 [dg claim,Vf root ⟨g,pc,hl,xt⟩ l pre] [] 0 (Q3 (Ao (dg Dg.zero) (Cw (some 31))) [] 0):=by
 refine Ac ok.k98 rfl fun x hx=>?_
 refine es 2000 ?_;(simp only [f98,c98,Vf,Hd.v,AU,BA,seval])
 have zz:=aq2 @dg.eq_1 @AU.eq_1;refine Gy (D5 ok.q.okA ok.d root g pc hl xt) ?_
 (simp only [eq_false hc,BA,Yf,seval])
 have zz:=aq3 @Av @dg.eq_1 @LM;exact Bg hx [] ⟨rfl,rfl,rfl⟩
theorem KT (ok:OkOs M) (root:Dg) (g:Nat→BitVec 64) (pc:BitVec 64) (hl:Bool) (xt:BitVec 64) (l:List Pf) (pre:Pr) (g1:Nat→BitVec 64) (pc1:BitVec 64) (hl1:Bool) (xt1:BitVec 64) (e:Option Int) (c1:Ck)
 (hN:Af M 241 [AU g pc hl xt,.ifc 426 (.ptr 0 [])] [(0,(⟨root,l,pre⟩:Ck).vv)] 1 (Q3 (Ao (AU g1 pc1 hl1 xt1) (Cw e)) [(0,c1.vv)] 2)) (q:Dg × Option Int) (hq:vfX e c1 ⟨g1,pc1,hl1,xt1⟩=q) :
 Af M 98 [dg (B2 root (DV g pc hl xt)),Vf root ⟨g,pc,hl,xt⟩ l pre] [] 0 (Q3 (Ao (dg q.1) (Cw q.2)) [] 0):=by
 refine Ac ok.k98 rfl fun x hx=>?_
 obtain ⟨root1,l1,pre1⟩:=c1
 cases e with
 | some n =>
   have hq:(Dg.zero,some n)=q:=hq
   subst hq
   refine es 2000 ?_;(simp only [f98,c98,Vf,Hd.v,AU,BA,seval])
   have zz:=aq2 @dg.eq_1 @AU.eq_1;refine Gy (D5 ok.q.okA ok.d root g pc hl xt) ?_
   (simp only [BA,seval])
   have zz:=aq4 @Ck.vv.eq_1 @AU.eq_1 @dg.eq_1 Mt;refine IJ [400] [400] (hN) ?_
   (simp only [Ck.vv,LW,AU,Av,Yf,seval])
   have zz:=aq3 @Av @dg.eq_1 @LM;exact Bg hx [] ⟨rfl,rfl,rfl⟩
 | none =>
   have hq:YJ ⟨root1,l1,pre1⟩ ⟨g1,pc1,hl1,xt1⟩=q:=hq
   cases l1 with
   | nil =>
     rw [YJ,if_pos rfl] at hq
     subst hq
     refine es 2000 ?_;(simp only [f98,c98,Vf,Hd.v,AU,BA,seval])
     have zz:=aq2 @dg.eq_1 @AU.eq_1;refine Gy (D5 ok.q.okA ok.d root g pc hl xt) ?_
     (simp only [BA,seval])
     have zz:=aq4 @Ck.vv.eq_1 @AU.eq_1 @dg.eq_1 Mt;refine IJ [400] [400] (hN) ?_
     (simp only [Ck.vv,LW,AU,Bz,Yf,List.length_nil,seval])
     have zz:=aq2 @dg.eq_1 @AU.eq_1;refine Gy (D5 ok.q.okA ok.d root1 g1 pc1 hl1 xt1) ?_
     (simp only [BA,seval])
     have zz:=aq3 @Bz @dg.eq_1 @LM;exact Bg hx [] ⟨rfl,rfl,rfl⟩
   | cons p l1 =>
     rw [YJ,if_neg Bu] at hq
     subst hq
     have h0:((0:Int) < ((l1.length + 1:Nat):Int))=True:=eq_true Aa
     refine es 2000 ?_;(simp only [f98,c98,Vf,Hd.v,AU,BA,seval])
     have zz:=aq2 @dg.eq_1 @AU.eq_1;refine Gy (D5 ok.q.okA ok.d root g pc hl xt) ?_
     (simp only [BA,seval])
     have zz:=aq4 @Ck.vv.eq_1 @AU.eq_1 @dg.eq_1 Mt;refine IJ [400] [400] (hN) ?_
     (simp only [Ck.vv,LW,AU,Bz,Yf,List.length_cons,h0,seval])
     have zz:=aq3 @Av @dg.eq_1 @LM;exact Bg hx [] ⟨rfl,rfl,rfl⟩
theorem OT (ok:OkOs M) (claim root:Dg) (h:Hd) (l:List Pf) (pre:Pr) :
 Af M 98 [dg claim,Vf root h l pre] [] 0 (Q3 (Ao (dg (vfy claim root h l pre).1) (Cw (vfy claim root h l pre).2)) [] 0):=by
 obtain ⟨g,pc,hl,xt⟩:=h
 unfold vfy
 by_cases hc:B2 root (DV g pc hl xt)=claim
 ·rw [if_neg (fun h=>h hc)]
  subst hc
  cases hl with
  | true =>
    rw [if_pos rfl]
    exact KT ok root g pc true xt l pre g pc true xt none ⟨root,l,pre⟩ (IB ok.q (ckI ok.q.okA ok.q.ok.toOkH ok.c) g pc xt ⟨root,l,pre⟩) _ rfl
  | false =>
    rw [if_neg Bu]
    by_cases hpc:8192#64≤pc
    ·rw [if_pos hpc]
     exact KT ok root g pc false xt l pre g pc true Ap none ⟨root,l,pre⟩ (GK ok.q (ckI ok.q.okA ok.q.ok.toOkH ok.c) g pc xt ⟨root,l,pre⟩ hpc) _ rfl
    ·rw [if_neg hpc]
     generalize hq:nx Ix ⟨g,pc,false,xt⟩ ⟨root,l,pre⟩=q
     obtain ⟨⟨g1,pc1,hl1,xt1⟩,e,c1⟩:=q
     exact KT ok root g pc false xt l pre g1 pc1 hl1 xt1 e c1 (I2 ok.q (ckI ok.q.okA ok.q.ok.toOkH ok.c) ⟨g,pc,false,xt⟩ ⟨root,l,pre⟩ trivial rfl hpc _ hq) _ rfl
 ·rw [if_pos hc]
  exact Q6 ok claim root g pc hl xt l pre hc
def c78:LC:=(sr [A1 2 (.mv (.c .nils)),
 mU 3 0,A1 4 (.mv (.c (.bool false)))] (sr [mt 7 0,
  aU 8 .shr 7 56,
  cVv 9 .i64 8,mt 5 9] (.seq (sr [mt 10 5,aI 11 .gtr 10 35,mt 12 11,mg 13 12 false 0,A2 14 12 false (.ari .shr (.t 13) (cU 32)),A2 15 12 false (.ari .and (.t 14) (cU 255)),A2 16 12 false (.ari .neq (.t 15) (cU 0)),
  pKt 17 12 16] (.cond (.t 17) (sr [A1 18 (.bsl 1 5 (.int .i64) [(.i 1 0,1,(cI 0)),(.i 1 1,1,(cI 0)),(.i 1 2,1,(cI 0)),(.i 1 3,1,(cI 0)),(.i 1 4,1,(cI 0))]),mt 2 18,
  mU 3 0,A1 4 (.mv (.c (.bool false)))] .ret) .skip)) (sr [mt 19 0,
  aU 20 .and 19 4294967295,mt 6 20] (.seq (sr [mt 21 6,
  aU 22 .geq 21 2147483648] (.cond (.t 22) (.reg [mt 23 6,
  aU 24 .add 23 18446744069414584320,mt 6 24]) .skip)) (sr [mt 25 5,mt 26 0,
  aU 27 .shr 26 52,
  aU 28 .and 27 15,
  cVv 29 .i64 28,mt 30 0,
  aU 31 .shr 30 48,
  aU 32 .and 31 15,
  cVv 33 .i64 32,mt 34 0,
  aU 35 .shr 34 44,
  aU 36 .and 35 15,
  cVv 37 .i64 36,mt 38 0,
  aU 39 .shr 38 40,
  aU 40 .and 39 15,
  cVv 41 .i64 40,A1 42 (.bsl 1 5 (.int .i64) [(.i 1 0,1,(.t 25)),(.i 1 1,1,(.t 29)),(.i 1 2,1,(.t 33)),(.i 1 3,1,(.t 37)),(.i 1 4,1,(.t 41))]),mt 43 6,mt 2 42,mt 3 43,A1 4 (.mv (.c (.bool true)))] .ret))))))
def f78:LF:=⟨c78,1,0,44,[.tmp 2,.tmp 3,.tmp 4]⟩
structure OkRP (M:Seat):Prop where
 k78:Al M 78 f78=true
def Co (w:BitVec 64):Bool:=decide (AT w≤35∧w >>> 32 &&& 255#64=0#64)
def rpt (w:BitVec 64) (i:Nat):Int:=if i=0 then (AT w:Nat) else if i=1 then (pF w 52:Nat) else if i=2 then (pF w 48:Nat) else if i=3 then (pF w 44:Nat) else (pF w 40:Nat)
theorem Z5 (w:BitVec 64) (h:2147483648#64≤w &&& 4294967295#64):(w &&& 4294967295#64) + 18446744069414584320#64=BitVec.ofInt 64 (pN w):=by
 have e:(w &&& 4294967295#64).toNat=w.toNat % 4294967296:=by
  rw [BitVec.toNat_and,show (4294967295#64).toNat=2 ^ 32 - 1 from rfl,Nat.and_two_pow_sub_one_eq_mod]
 have h':2147483648≤w.toNat % 4294967296:=by rw [← e];exact h
 apply BitVec.eq_of_toNat_eq
 rw [BitVec.toNat_add,e,show (18446744069414584320#64).toNat=18446744069414584320 from rfl,BitVec.toNat_ofInt,Wx,if_neg Aa]
 omega
theorem Mq (w:BitVec 64) (h:¬ 2147483648#64≤w &&& 4294967295#64):(w &&& 4294967295#64)=BitVec.ofInt 64 (pN w):=by
 have e:(w &&& 4294967295#64).toNat=w.toNat % 4294967296:=by
  rw [BitVec.toNat_and,show (4294967295#64).toNat=2 ^ 32 - 1 from rfl,Nat.and_two_pow_sub_one_eq_mod]
 have h':¬ 2147483648≤w.toNat % 4294967296:=by rw [← e];exact h
 apply BitVec.eq_of_toNat_eq
 rw [e,BitVec.toNat_ofInt,Wx,if_pos Aa]
 omega
theorem As {M:Seat} (ok:OkRP M) (w:BitVec 64) (h:Co w=true) :
 Af M 78 [W w] [] 0 (Q3 (BD (.sl 0 [] 0 5 1) (W (BitVec.ofInt 64 (pN w))) (.bool true)) [(0,.ar 1 5 fun i=>.int .i64 (rpt w i))] 1):=by
 simp only [Co,decide_eq_true_eq] at h
 refine Ac ok.k78 rfl fun x hx=>?_
 have e1:((35:Int) < (AT w:Int))=False:=eq_false Aa
 have h2:=h.2
 by_cases hb:2147483648#64≤w &&& 4294967295#64
 ·refine es 2000 ?_;(simp only [f78,c78,EK,QF,e1,h2,eq_true hb,Z5 w hb,LZ,seval])
  repeat refine sd ?_
  refine ID hx [640] (BD (.sl 0 [] 0 5 1) (W (BitVec.ofInt 64 (pN w))) (.bool true)) ([(0,.ar 1 5 fun i=>.int .i64 (rpt w i))]) 1 ?_
  simp only [LY,seval]
  intro i hi
  have:i=0 ∨ i=1 ∨ i=2 ∨ i=3 ∨ i=4:=Aa
  rcases this with rfl | rfl | rfl | rfl | rfl <;> rfl
 ·have hb':(2147483648#64≤BitVec.ofInt 64 (pN w))=False:=by rw [← Mq w hb];exact eq_false hb
  refine es 2000 ?_;(simp only [f78,c78,EK,QF,e1,h2,eq_false hb,hb',Mq w hb,LZ,seval])
  repeat refine sd ?_
  refine ID hx [592] (BD (.sl 0 [] 0 5 1) (W (BitVec.ofInt 64 (pN w))) (.bool true)) ([(0,.ar 1 5 fun i=>.int .i64 (rpt w i))]) 1 ?_
  simp only [LY,seval]
  intro i hi
  have:i=0 ∨ i=1 ∨ i=2 ∨ i=3 ∨ i=4:=Aa
  rcases this with rfl | rfl | rfl | rfl | rfl <;> rfl
theorem Jq {M:Seat} (ok:OkRP M) (w:BitVec 64) (h:Co w=false) :
 Af M 78 [W w] [] 0 (Q3 (BD (.sl 0 [] 0 5 1) (W 0#64) (.bool false)) [(0,.ar 1 5 fun _=>.int .i64 0)] 1):=by
 simp only [Co,decide_eq_false_iff_not] at h
 refine Ac ok.k78 rfl fun x hx=>?_
 by_cases hp:AT w≤35
 ·have e1:((35:Int) < (AT w:Int))=False:=eq_false Aa
  have e2:(w >>> 32 &&& 255#64=0#64)=False:=eq_false (fun h'=>h ⟨hp,h'⟩)
  refine es 2000 ?_;(simp only [f78,c78,EK,e1,e2,LZ,seval])
  refine ID hx [240] (BD (.sl 0 [] 0 5 1) (W 0#64) (.bool false)) ([(0,.ar 1 5 fun _=>.int .i64 0)]) 1 ?_
  simp only [LY,seval]
  intro i hi
  have:i=0 ∨ i=1 ∨ i=2 ∨ i=3 ∨ i=4:=Aa
  rcases this with rfl | rfl | rfl | rfl | rfl <;> rfl
 ·have e1:((35:Int) < (AT w:Int))=True:=eq_true Aa
  refine es 2000 ?_;(simp only [f78,c78,EK,e1,LZ,seval])
  refine ID hx [240] (BD (.sl 0 [] 0 5 1) (W 0#64) (.bool false)) ([(0,.ar 1 5 fun _=>.int .i64 0)]) 1 ?_
  simp only [LY,seval]
  intro i hi
  have:i=0 ∨ i=1 ∨ i=2 ∨ i=3 ∨ i=4:=Aa
  rcases this with rfl | rfl | rfl | rfl | rfl <;> rfl
def ZW:LC:=(sr [mU 8 0,
 mI 9 0] (.seq (sr [mt 18 0] (.block 0 (sr [aI 20 .eql 18 1,mt 19 20] (.cond (.t 19) (sr [mt 21 1,mt 22 2,ak 23 .add 21 22,mt 8 23,
  mI 9 0] .ret) (sr [aI 25 .eql 18 2,mt 24 25] (.cond (.t 24) (sr [mt 26 1,mt 27 2,ak 28 .sub 26 27,mt 8 28,
  mI 9 0] .ret) (sr [aI 30 .eql 18 3,mt 29 30] (.cond (.t 29) (sr [mt 32 1,mt 33 2,kl 34 226 [(.t 32),(.t 33)],mt 31 34,ee 35 31 0,ee 36 31 1,mt 10 35,mt 11 36] (sr [mt 37 11,mt 8 37,
  mI 9 0] .ret)) (.seq (sr [aI 39 .eql 18 4,mt 38 39] (.cond (.t 38) .skip (sr [aI 40 .eql 18 5,mt 38 40] (.cond (.t 38) .skip (sr [aI 41 .eql 18 6,mt 38 41] (.cond (.t 38) .skip (.reg [aI 42 .eql 18 7,mt 38 42]))))))) (.cond (.t 38) (sr [mt 43 0,mt 44 1,mt 45 2,kl 46 227 [(.t 43),(.t 44),(.t 45)],mt 8 46,
  mI 9 0] .ret) (.seq (sr [aI 48 .eql 18 8,mt 47 48] (.cond (.t 47) .skip (.reg [aI 49 .eql 18 9,mt 47 49]))) (.cond (.t 47) (.seq (sr [mt 50 3,
  aU 51 .eql 50 0] (.cond (.t 51) (sr [mU 8 0,
  mI 9 0] .ret) .skip)) (sr [mt 53 1,mt 54 2,kl 55 226 [(.t 53),(.t 54)],mt 52 55,ee 56 52 0,ee 57 52 1,mt 12 56,mt 13 57] (.seq (sr [mt 58 0,aI 59 .eql 58 8] (.cond (.t 59) (sr [mt 60 1,mt 61 2,ak 62 .add 60 61,mt 13 62] (.reg [mt 63 13,mt 64 1,ak 65 .lss 63 64,kl 66 228 [(.t 65)],mt 12 66])) .skip)) (sr [mt 68 12,mt 69 13,mt 70 3,kl 71 229 [(.t 68),(.t 69),(.t 70)],mt 67 71,ee 72 67 0,ee 73 67 1,mt 14 72,mt 15 73] (sr [mt 74 15,mt 8 74,
  mI 9 0] .ret))))) (sr [aI 76 .eql 18 10,mt 75 76] (.cond (.t 75) (sr [mU 16 1] (.seq (sr [mI 17 63] (.block 1 (.loop (.seq (sr [mt 77 17,aI 78 .geq 77 0]
 (cXx 78 1)) (.seq (.block 2 (sr [mt 81 16,mt 82 16,ak 83 .mul 81 82,mt 16 83] (sr [mt 84 2,mt 85 17,
  cVv 86 .u64 85,ak 87 .shr 84 86,
  aU 88 .and 87 1,
  aU 89 .eql 88 1] (.cond (.t 89) (.reg [mt 90 16,mt 91 1,ak 92 .mul 90 91,mt 16 92]) .skip)))) (.reg [mt 79 17,aI 80 .sub 79 1,mt 17 80])))))) (sr [mt 93 16,mt 8 93,
  mI 9 0] .ret))) (.seq (sr [aI 95 .eql 18 11,mt 94 95] (.cond (.t 94) .skip (sr [aI 96 .eql 18 12,mt 94 96] (.cond (.t 94) .skip (sr [aI 97 .eql 18 13,mt 94 97] (.cond (.t 94) .skip (sr [aI 98 .eql 18 14,mt 94 98] (.cond (.t 94) .skip (.reg [aI 99 .eql 18 15,mt 94 99]))))))))) (.cond (.t 94) (sr [mt 100 0,mt 101 1,mt 102 2,kl 103 230 [(.t 100),(.t 101),(.t 102)],mt 8 103,
  mI 9 0] .ret) (sr [aI 105 .eql 18 16,mt 104 105] (.cond (.t 104) (sr [mt 106 1,mt 107 2,ak 108 .lss 106 107,kl 109 228 [(.t 108)],mt 8 109,
  mI 9 0] .ret) (sr [aI 111 .eql 18 17,mt 110 111] (.cond (.t 110) (sr [mt 112 1,mt 113 2,ak 114 .gtr 112 113,kl 115 228 [(.t 114)],mt 8 115,
  mI 9 0] .ret) (sr [aI 117 .eql 18 18,mt 116 117] (.cond (.t 116) (sr [mt 118 1,
  aU 119 .xor 118 9223372036854775808,mt 120 2,
  aU 121 .xor 120 9223372036854775808,ak 122 .lss 119 121,kl 123 228 [(.t 122)],mt 8 123,
  mI 9 0] .ret) (sr [aI 125 .eql 18 19,mt 124 125] (.cond (.t 124) (sr [mt 126 1,
  aU 127 .xor 126 9223372036854775808,mt 128 2,
  aU 129 .xor 128 9223372036854775808,ak 130 .gtr 127 129,kl 131 228 [(.t 130)],mt 8 131,
  mI 9 0] .ret) (sr [aI 133 .eql 18 20,mt 132 133] (.cond (.t 132) (sr [mt 134 1,mt 135 2,ak 136 .eql 134 135,kl 137 228 [(.t 136)],mt 8 137,
  mI 9 0] .ret) (sr [aI 139 .eql 18 21,mt 138 139] (.cond (.t 138) (sr [mt 140 1,
  aU 141 .eql 140 0,kl 142 228 [(.t 141)],mt 8 142,
  mI 9 0] .ret) (sr [aI 144 .eql 18 22,mt 143 144] (.cond (.t 143) (sr [mt 145 1,mt 146 2,ak 147 .and 145 146,mt 8 147,
  mI 9 0] .ret) (sr [aI 149 .eql 18 23,mt 148 149] (.cond (.t 148) (sr [mt 150 1,mt 151 2,ak 152 .or 150 151,mt 8 152,
  mI 9 0] .ret) (sr [aI 154 .eql 18 24,mt 153 154] (.cond (.t 153) (sr [mt 155 1,mt 156 2,ak 157 .xor 155 156,mt 8 157,
  mI 9 0] .ret) (sr [aI 159 .eql 18 25,mt 158 159] (.cond (.t 158) (sr [mt 160 1,
  aU 161 .xor 160 18446744073709551615,mt 8 161,
  mI 9 0] .ret) .skip)))))))))))))))))))))))))))))))))))) (sr [mU 8 0,
  mI 9 10] .ret)))
def YK:LF:=⟨ZW,4,0,162,[.tmp 8,.tmp 9]⟩
def Ald:LC:=(sr [mU 4 0,
 mU 5 0] (sr [mt 13 0,
  aU 14 .and 13 4294967295,mt 15 0,
  aU 16 .shr 15 32,mt 6 14,mt 7 16] (sr [mt 17 1,
  aU 18 .and 17 4294967295,mt 19 1,
  aU 20 .shr 19 32,mt 8 18,mt 9 20] (sr [mt 21 6,mt 22 8,ak 23 .mul 21 22,mt 10 23] (sr [mt 24 7,mt 25 8,ak 26 .mul 24 25,mt 27 10,
  aU 28 .shr 27 32,ak 29 .add 26 28,mt 11 29] (sr [mt 30 6,mt 31 9,ak 32 .mul 30 31,mt 33 11,
  aU 34 .and 33 4294967295,ak 35 .add 32 34,mt 12 35] (sr [mt 36 7,mt 37 9,ak 38 .mul 36 37,mt 39 11,
  aU 40 .shr 39 32,ak 41 .add 38 40,mt 42 12,
  aU 43 .shr 42 32,ak 44 .add 41 43,mt 45 12,
  aU 46 .shl 45 32,mt 47 10,
  aU 48 .and 47 4294967295,ak 49 .or 46 48,mt 4 44,mt 5 49] .ret)))))))
def Ah9:LF:=⟨Ald,2,0,50,[.tmp 4,.tmp 5]⟩
def Ob:LC:=(sr [mU 6 0] (.seq (sr [mt 11 2,
  aU 12 .eql 11 0] (.cond (.t 12) (sr [mU 6 0] .ret) .skip)) (.seq (sr [mt 13 0,aI 14 .eql 13 4,mt 15 14,mg 16 15 false 0,A2 17 15 false (.ari .eql (.t 16) (cI 6)),
  pKt 18 15 17] (.cond (.t 18) (sr [mt 20 1,mt 21 2,kl 22 229 [(cU 0),(.t 20),(.t 21)],mt 19 22,ee 23 19 0,ee 24 19 1,mt 7 23,mt 8 24] (.seq (sr [mt 25 0,aI 26 .eql 25 4] (.cond (.t 26) (sr [mt 27 7,mt 6 27] .ret) .skip)) (sr [mt 28 8,mt 6 28] .ret))) .skip)) (sr [mt 30 1,kl 31 335 [(.t 30)],mt 32 2,kl 33 335 [(.t 32)],kl 34 229 [(cU 0),(.t 31),(.t 33)],mt 29 34,ee 35 29 0,ee 36 29 1,mt 9 35,mt 10 36] (.seq (sr [mt 37 0,aI 38 .eql 37 5,mt 39 38,mg 40 39 true 1,⟨(some 41),.call 336 [(.t 40)],(some (39,true))⟩,mg 42 39 true 2,⟨(some 43),.call 336 [(.t 42)],(some (39,true))⟩,A2 44 39 true (.eq true false .bool (.t 41) (.t 43)),
  pKf 45 39 44] (.cond (.t 45) (sr [mt 46 9,
  aV 47 .sub 0 46,mt 6 47] .ret) .skip)) (.seq (sr [mt 48 0,aI 49 .eql 48 5] (.cond (.t 49) (sr [mt 50 9,mt 6 50] .ret) .skip)) (.seq (sr [mt 51 1,kl 52 336 [(.t 51)]] (.cond (.t 52) (sr [mt 53 10,
  aV 54 .sub 0 53,mt 6 54] .ret) .skip)) (sr [mt 55 10,mt 6 55] .ret))))))))
def Lf:LF:=⟨Ob,3,0,56,[.tmp 6]⟩
def Alz:LC:=(sr [mU 2 0] (.seq (sr [mt 3 0] (.cond (.t 3) (sr [mU 2 1] .ret) .skip)) (sr [mU 2 0] .ret)))
def Ahc:LF:=⟨Alz,1,0,4,[.tmp 2]⟩
def Ajc:LC:=(sr [mU 6 0,
 mU 7 0] (sr [mU 8 0,
  mU 9 0] (.seq (sr [mI 10 127] (.block 0 (.loop (.seq (sr [mt 13 10,aI 14 .geq 13 0]
 (cXx 14 0)) (.seq (.block 1 (sr [mU 11 0] (.seq (sr [mt 17 10,aI 18 .geq 17 64] (.cond (.t 18) (.reg [mt 19 0,mt 20 10,aI 21 .sub 20 64,
  cVv 22 .u64 21,ak 23 .shr 19 22,
  aU 24 .and 23 1,mt 11 24]) (.reg [mt 25 1,mt 26 10,
  cVv 27 .u64 26,ak 28 .shr 25 27,
  aU 29 .and 28 1,mt 11 29]))) (sr [mt 30 9,
  aU 31 .shr 30 63,mt 12 31] (sr [mt 32 9,
  aU 33 .shl 32 1,mt 34 11,ak 35 .or 33 34,mt 9 35] (sr [mt 36 8,
  aU 37 .shl 36 1,mt 8 37] (sr [mt 38 12,
  aU 39 .eql 38 1,mt 40 39,mg 41 40 false 9,mg 42 40 false 2,A2 43 40 false (.ari .geq (.t 41) (.t 42)),
  pKt 44 40 43] (.cond (.t 44) (sr [mt 45 9,mt 46 2,ak 47 .sub 45 46,mt 9 47] (.reg [mt 48 8,
  aU 49 .or 48 1,mt 8 49])) .skip)))))))) (.reg [mt 15 10,aI 16 .sub 15 1,mt 10 16])))))) (sr [mt 50 8,mt 51 9,mt 6 50,mt 7 51] .ret))))
def Agf:LF:=⟨Ajc,3,0,52,[.tmp 6,.tmp 7]⟩
def UE:LC:=(sr [mU 6 0] (sr [mU 7 0] (.seq (sr [mU 8 0] (.block 0 (.loop (.seq (sr [mt 11 8,
  aU 12 .lss 11 64]
 (cXx 12 0)) (.seq (.block 1 (sr [mt 15 8,mt 9 15] (sr [A1 10 (.mv (.c (.bool true)))] (.seq (sr [mt 16 0] (.block 2 (sr [aI 18 .eql 16 11,mt 17 18] (.cond (.t 17) (sr [mt 19 1,
  aU 20 .lss 19 8] (.cond (.t 20) (.reg [mt 21 8,mt 22 1,
  aV 23 .mul 8 22,
  aU 24 .add 23 7,A1 25 (.mm false (.t 21) (.t 24)),mt 9 25]) .skip)) (sr [aI 27 .eql 16 12,mt 26 27] (.cond (.t 26) (sr [mt 28 8,
  aU 29 .lss 28 8,mt 30 29,mg 31 30 true 1,A2 32 30 true (.ari .lss (.t 31) (cU 8)),
  pKf 33 30 32,mt 10 33] (.reg [mt 34 1,A1 35 (.mm false (.t 34) (cU 7)),
  aV 36 .mul 8 35,
  aV 37 .sub 56 36,mt 38 8,ak 39 .add 37 38,mt 9 39])) (sr [aI 41 .eql 16 13,mt 40 41] (.cond (.t 40) (sr [mt 42 1,mt 43 8,ak 44 .leq 42 43,mt 10 44] (.reg [mt 45 8,mt 46 1,ak 47 .sub 45 46,mt 9 47])) (.seq (sr [aI 49 .eql 16 14,mt 48 49] (.cond (.t 48) .skip (.reg [aI 50 .eql 16 15,mt 48 50]))) (.cond (.t 48) (sr [mt 51 1,mt 52 8,
  aV 53 .sub 64 52,ak 54 .lss 51 53,mt 10 54] (sr [mt 55 8,mt 56 1,ak 57 .add 55 56,mt 9 57] (sr [mt 58 0,aI 59 .eql 58 15,mt 60 59,mg 61 60 true 10,A2 62 60 true (.un .not (.t 61)),
  pKf 63 60 62] (.cond (.t 63) (sr [A1 10 (.mv (.c (.bool true)))] (.reg [mU 9 63])) .skip)))) .skip)))))))))) (sr [mt 64 10,mt 65 64,mg 66 65 true 9,A2 67 65 true (.ari .lss (.t 66) (cU 64)),
  pKf 68 65 67,mt 69 68,mg 70 69 true 2,mg 71 69 true 9,A2 72 69 true (.ari .shr (.t 70) (.t 71)),A2 73 69 true (.ari .and (.t 72) (cU 1)),A2 74 69 true (.ari .eql (.t 73) (cU 1)),
  pKf 75 69 74] (.cond (.t 75) (.reg [mt 76 7,mt 77 8,
  aV 78 .shl 1 77,ak 79 .or 76 78,mt 7 79]) .skip)))))) (.reg [mt 13 8,
  aU 14 .add 13 1,mt 8 14])))))) (sr [mt 80 7,mt 6 80] .ret))))
def QQ:LF:=⟨UE,3,0,81,[.tmp 6]⟩
def Agk:LC:=(sr [mU 2 0] (.seq (sr [mt 3 0,kl 4 336 [(.t 3)]] (.cond (.t 4) (sr [mt 5 0,
  aV 6 .sub 0 5,mt 2 6] .ret) .skip)) (sr [mt 7 0,mt 2 7] .ret)))
def ZO:LF:=⟨Agk,1,0,8,[.tmp 2]⟩
def Amh:LC:=(sr [A1 2 (.mv (.c (.bool false)))] (sr [mt 3 0,
  aU 4 .geq 3 9223372036854775808,mt 2 4] .ret))
def Adt:LF:=⟨Amh,1,0,5,[.tmp 2]⟩
end Mv
