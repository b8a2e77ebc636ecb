/- A part. -/
import Derived.Test.YtncipgmjhaiagaaGreatDoorFK
set_option linter.all false
set_option maxRecDepth 20000
set_option maxHeartbeats 4000000
namespace Mv
open Go
variable {M:Seat}
structure OkOs (M:Seat):Prop where
 q:OkQ M
 d:OkD M
 c:OkCk M
 p:OkPr M
 k97:Al M 97 f97=true
 k98:Al M 98 f98=true
def Vf (root:Dg) (h:Hd) (l:List Pf) (pre:Pr):V:=.st 116 (.fcons 0 (dg root) (.fcons 32 h.v (.fcons 51 (.lst 2 l.length (Dz l)) (.fcons 52 (At pre) .fnil))))
def Mc.h (m:Mc):Hd:=⟨m.g,m.pc,m.hl,m.xt⟩
def TO (m:Mc) (e:Option Int) (l:List Pf) (pre:Pr):V:=match e with
 | none=>Ao (Vf (Bm m.f 13 0) m.h l pre) .nili
 | some n=>Ao (Vf Dg.zero ⟨fun _=>0#64,0#64,false,0#64⟩ [] Pr.zero) (.ifc 74 (.int .i64 n))
def Lbm:=(aq6 @Hd.v.eq_1 @Mc.h.eq_1 @AU.eq_1 @TO.eq_1 @TO.eq_2 @Vf.eq_1)
def EA (va:V):V:=.st 4 (.fcons 0 (.map 2) (.fcons 1 (.ptr 3 []) (.fcons 2 (.map 4) (.fcons 3 va .fnil))))
def Lca:=(aq5 @LM @Lbm @PR @List.length_nil.{0} @EA.eq_1)
theorem Qy (ok:OkOs M) (f g:Nat→BitVec 64) (pc xt:BitVec 64) (pres:List (Dg × Pr)) (q:Nat) :
 Af M 97 [.ptr 0 [],.ptr 1 []] [(0,mach f g pc true xt),(1,EA (.nils)),(2,Bv At Pr.zero pres)] 5
  (Q3 (TO ⟨f,g,pc,true,xt⟩ none [] Pr.zero) [(0,mach f g pc true xt),(1,EA (.nils)),(2,Bv At Pr.zero pres)] 5):=by
 refine Ac ok.k97 rfl fun x hx=>?_
 have hN:Af M 241 [AU g pc true xt,.ifc 422 (.ptr 0 [])] [(0,Dc .nils Pr.zero),(1,mach f g pc true xt),(2,CU (.nils)),(3,Bv At Pr.zero pres)] 6 (Q3 (Ao (AU g pc true xt) .nili) [(0,Dc .nils Pr.zero),(1,mach f g pc true xt),(2,CU (.nils)),(3,Bv At Pr.zero pres)] (6 + 1)) :=
  IB ok.q (Ait ok.q.okA ok.q.ok ok.p g pc true xt pres q) g pc xt ⟨f,[],Pr.zero⟩
 refine es 2000 ?_;(simp only [f97,c97,LZ,seval])
 have zz:=@mach.eq_1;refine El (D9 ok.q.okA f g pc true xt) ?_
 (simp only [Bp,SD,LZ,seval])
 have zz:=aq2 @mach.eq_1 @AU.eq_1;refine CI (Cl ok.d f g pc true xt) ?_
 (simp only [Cb,AU,seval])
 have zz:=aq2 @mach.eq_1 @dg.eq_1;refine CI (C9 ok.q.okA f g pc true xt) ?_
 (simp only [Cb,seval])
 have zz:=aq3 Qi @EA.eq_1 @C6;refine IJ [197,149,1,2,3,4] [197,149,1,2] (hN) ?_
 (simp only [Gw,Qi,Bp,seval])
 have zz:=aq2 Lca @dg.eq_1;exact Bg hx [0,1,2,3,4] ⟨rfl,rfl,rfl⟩
theorem O9 (ok:OkOs M) (f g:Nat→BitVec 64) (pc xt:BitVec 64) (hpc:8192#64≤pc) (pres:List (Dg × Pr)) (q:Nat) :
 Af M 97 [.ptr 0 [],.ptr 1 []] [(0,mach f g pc false xt),(1,EA (.nils)),(2,Bv At Pr.zero pres)] 5
  (Q3 (TO ⟨f,g,pc,false,xt⟩ none [] Pr.zero) [(0,mach f g pc false xt),(1,EA (.nils)),(2,Bv At Pr.zero pres)] 5):=by
 refine Ac ok.k97 rfl fun x hx=>?_
 have hN:Af M 241 [AU g pc false xt,.ifc 422 (.ptr 0 [])] [(0,Dc .nils Pr.zero),(1,mach f g pc false xt),(2,CU (.nils)),(3,Bv At Pr.zero pres)] 6 (Q3 (Ao (AU g pc true Ap) .nili) [(0,Dc .nils Pr.zero),(1,mach f g pc false xt),(2,CU (.nils)),(3,Bv At Pr.zero pres)] (6 + 1)) :=
  GK ok.q (Ait ok.q.okA ok.q.ok ok.p g pc false xt pres q) g pc xt ⟨f,[],Pr.zero⟩ hpc
 refine es 2000 ?_;(simp only [f97,c97,LZ,seval])
 have zz:=@mach.eq_1;refine El (D9 ok.q.okA f g pc false xt) ?_
 (simp only [Bp,SD,LZ,seval])
 have zz:=aq2 @mach.eq_1 @AU.eq_1;refine CI (Cl ok.d f g pc false xt) ?_
 (simp only [Cb,AU,seval])
 have zz:=aq2 @mach.eq_1 @dg.eq_1;refine CI (C9 ok.q.okA f g pc false xt) ?_
 (simp only [Cb,seval])
 have zz:=aq3 Qi @EA.eq_1 @C6;refine IJ [197,149,1,2,3,4] [197,149,1,2] (hN) ?_
 (simp only [Gw,Qi,Bp,seval])
 have zz:=aq2 Lca @dg.eq_1;exact Bg hx [0,1,2,3,4] ⟨rfl,rfl,rfl⟩
theorem U6 (ok:OkOs M) (f g:Nat→BitVec 64) (pc xt:BitVec 64) (hpc:¬ 8192#64≤pc) (pres:List (Dg × Pr)) (q:Nat) (h1:Hd) (e:Option Int) (s1:Ps) (hq:nx (Fc pres) ⟨g,pc,false,xt⟩ ⟨f,[],Pr.zero⟩=(h1,e,s1)) :
 Af M 97 [.ptr 0 [],.ptr 1 []] [(0,mach f g pc false xt),(1,EA (.nils)),(2,Bv At Pr.zero pres)] 5
  (Q3 (TO ⟨f,g,pc,false,xt⟩ e s1.l s1.pre) [(0,mach f g pc false xt),(1,EA (.nils)),(2,Bv At Pr.zero pres)] 5):=by
 refine Ac ok.k97 rfl fun x hx=>?_
 obtain ⟨g1,pc1,hl1,xt1⟩:=h1
 obtain ⟨f1,l1,pre1⟩:=s1
 have hN:Af M 241 [AU g pc false xt,.ifc 422 (.ptr 0 [])] [(0,Dc .nils Pr.zero),(1,mach f g pc false xt),(2,CU (.nils)),(3,Bv At Pr.zero pres)] 6 (Q3 (Ao (AU g1 pc1 hl1 xt1) (Cw e)) [(0,Dc (.sl 6 [] 0 l1.length 2) pre1),(1,mach f1 g pc false xt),(2,CU (.nils)),(3,Bv At Pr.zero pres),(6,.ar 2 l1.length (Dz l1))] (6 + 1)) :=
  I2 ok.q (Ait ok.q.okA ok.q.ok ok.p g pc false xt pres q) ⟨g,pc,false,xt⟩ ⟨f,[],Pr.zero⟩ rfl rfl hpc _ hq
 refine es 2000 ?_;(simp only [f97,c97,LZ,seval])
 have zz:=@mach.eq_1;refine El (D9 ok.q.okA f g pc false xt) ?_
 (simp only [Bp,SD,LZ,seval])
 have zz:=aq2 @mach.eq_1 @AU.eq_1;refine CI (Cl ok.d f g pc false xt) ?_
 (simp only [Cb,AU,seval])
 have zz:=aq2 @mach.eq_1 @dg.eq_1;refine CI (C9 ok.q.okA f g pc false xt) ?_
 (simp only [Cb,seval])
 cases e with
 | none =>
   have zz:=aq3 Qi @EA.eq_1 @C6;refine IJ [197,149,1,2,3,4] [197,149,1,2] (hN) ?_
   (simp only [LW,Qi,Bz,Bp,seval])
   refine Aq.mk hx [0,1,2,3,4] [533] (TO ⟨f,g,pc,false,xt⟩ none l1 pre1) [(0,mach f g pc false xt),(1,EA (.nils)),(2,Bv At Pr.zero pres)] 5 Ak (by (simp only [LV,BA,seval])) ?_ ?_ ⟨rfl,rfl,rfl⟩
   ·simp only [LV,Lbm,Gw,dg,CF,seval]
    refine ⟨by rfl,fun i hi=>?_⟩
    try rw [Nat.zero_add]
    exact N4 _ _ _ _
   ·simp only [EA,CF,seval]
 | some n =>
   have zz:=aq3 Qi @EA.eq_1 @C6;refine IJ [197,149,1,2,3,4] [197,149,1,2] (hN) ?_
   (simp only [LW,Qi,Av,Bp,SD,seval])
   have zz:=aq2 Lca OS;exact Bg hx [0,1,2,3,4] ⟨rfl,rfl,rfl⟩
theorem QZ (ok:OkOs M) (f g:Nat→BitVec 64) (pc xt:BitVec 64) (pres:List (Dg × Pr)) (q:Nat) :
 Af M 97 [.ptr 0 [],.ptr 1 []] [(0,mach f g pc true xt),(1,EA (.sl 5 [] 0 q 32)),(2,Bv At Pr.zero pres)] 6
  (Q3 (TO ⟨f,g,pc,true,xt⟩ none [] Pr.zero) [(0,mach f g pc true xt),(1,EA (.sl 5 [] 0 q 32)),(2,Bv At Pr.zero pres)] 6):=by
 refine Ac ok.k97 rfl fun x hx=>?_
 have hN:Af M 241 [AU g pc true xt,.ifc 422 (.ptr 0 [])] [(0,Dc .nils Pr.zero),(1,mach f g pc true xt),(2,CU (.sl 6 [] 0 q 32)),(3,Bv At Pr.zero pres)] 7 (Q3 (Ao (AU g pc true xt) .nili) [(0,Dc .nils Pr.zero),(1,mach f g pc true xt),(2,CU (.sl 6 [] 0 q 32)),(3,Bv At Pr.zero pres)] (7 + 1)) :=
  IB ok.q (Aix ok.q.okA ok.q.ok ok.p g pc true xt pres q) g pc xt ⟨f,[],Pr.zero⟩
 refine es 2000 ?_;(simp only [f97,c97,LZ,seval])
 have zz:=@mach.eq_1;refine El (D9 ok.q.okA f g pc true xt) ?_
 (simp only [Bp,SD,LZ,seval])
 have zz:=aq2 @mach.eq_1 @AU.eq_1;refine CI (Cl ok.d f g pc true xt) ?_
 (simp only [Cb,AU,seval])
 have zz:=aq2 @mach.eq_1 @dg.eq_1;refine CI (C9 ok.q.okA f g pc true xt) ?_
 (simp only [Cb,seval])
 have zz:=aq3 Qi @EA.eq_1 @C6;refine IJ [198,150,1,2,3,4,5] [198,150,1,2] (hN) ?_
 (simp only [Gw,Qi,Bp,seval])
 have zz:=aq2 Lca @dg.eq_1;exact Bg hx [0,1,2,3,4,5] ⟨rfl,rfl,rfl⟩
theorem OX (ok:OkOs M) (f g:Nat→BitVec 64) (pc xt:BitVec 64) (hpc:8192#64≤pc) (pres:List (Dg × Pr)) (q:Nat) :
 Af M 97 [.ptr 0 [],.ptr 1 []] [(0,mach f g pc false xt),(1,EA (.sl 5 [] 0 q 32)),(2,Bv At Pr.zero pres)] 6
  (Q3 (TO ⟨f,g,pc,false,xt⟩ none [] Pr.zero) [(0,mach f g pc false xt),(1,EA (.sl 5 [] 0 q 32)),(2,Bv At Pr.zero pres)] 6):=by
 refine Ac ok.k97 rfl fun x hx=>?_
 have hN:Af M 241 [AU g pc false xt,.ifc 422 (.ptr 0 [])] [(0,Dc .nils Pr.zero),(1,mach f g pc false xt),(2,CU (.sl 6 [] 0 q 32)),(3,Bv At Pr.zero pres)] 7 (Q3 (Ao (AU g pc true Ap) .nili) [(0,Dc .nils Pr.zero),(1,mach f g pc false xt),(2,CU (.sl 6 [] 0 q 32)),(3,Bv At Pr.zero pres)] (7 + 1)) :=
  GK ok.q (Aix ok.q.okA ok.q.ok ok.p g pc false xt pres q) g pc xt ⟨f,[],Pr.zero⟩ hpc
 refine es 2000 ?_;(simp only [f97,c97,LZ,seval])
 have zz:=@mach.eq_1;refine El (D9 ok.q.okA f g pc false xt) ?_
 (simp only [Bp,SD,LZ,seval])
 have zz:=aq2 @mach.eq_1 @AU.eq_1;refine CI (Cl ok.d f g pc false xt) ?_
 (simp only [Cb,AU,seval])
 have zz:=aq2 @mach.eq_1 @dg.eq_1;refine CI (C9 ok.q.okA f g pc false xt) ?_
 (simp only [Cb,seval])
 have zz:=aq3 Qi @EA.eq_1 @C6;refine IJ [198,150,1,2,3,4,5] [198,150,1,2] (hN) ?_
 (simp only [Gw,Qi,Bp,seval])
 have zz:=aq2 Lca @dg.eq_1;exact Bg hx [0,1,2,3,4,5] ⟨rfl,rfl,rfl⟩
theorem Uq (ok:OkOs M) (f g:Nat→BitVec 64) (pc xt:BitVec 64) (hpc:¬ 8192#64≤pc) (pres:List (Dg × Pr)) (q:Nat) (h1:Hd) (e:Option Int) (s1:Ps) (hq:nx (Fc pres) ⟨g,pc,false,xt⟩ ⟨f,[],Pr.zero⟩=(h1,e,s1)) :
 Af M 97 [.ptr 0 [],.ptr 1 []] [(0,mach f g pc false xt),(1,EA (.sl 5 [] 0 q 32)),(2,Bv At Pr.zero pres)] 6
  (Q3 (TO ⟨f,g,pc,false,xt⟩ e s1.l s1.pre) [(0,mach f g pc false xt),(1,EA (.sl 5 [] 0 q 32)),(2,Bv At Pr.zero pres)] 6):=by
 refine Ac ok.k97 rfl fun x hx=>?_
 obtain ⟨g1,pc1,hl1,xt1⟩:=h1
 obtain ⟨f1,l1,pre1⟩:=s1
 have hN:Af M 241 [AU g pc false xt,.ifc 422 (.ptr 0 [])] [(0,Dc .nils Pr.zero),(1,mach f g pc false xt),(2,CU (.sl 6 [] 0 q 32)),(3,Bv At Pr.zero pres)] 7 (Q3 (Ao (AU g1 pc1 hl1 xt1) (Cw e)) [(0,Dc (.sl 7 [] 0 l1.length 2) pre1),(1,mach f1 g pc false xt),(2,CU (.sl 6 [] 0 q 32)),(3,Bv At Pr.zero pres),(7,.ar 2 l1.length (Dz l1))] (7 + 1)) :=
  I2 ok.q (Aix ok.q.okA ok.q.ok ok.p g pc false xt pres q) ⟨g,pc,false,xt⟩ ⟨f,[],Pr.zero⟩ rfl rfl hpc _ hq
 refine es 2000 ?_;(simp only [f97,c97,LZ,seval])
 have zz:=@mach.eq_1;refine El (D9 ok.q.okA f g pc false xt) ?_
 (simp only [Bp,SD,LZ,seval])
 have zz:=aq2 @mach.eq_1 @AU.eq_1;refine CI (Cl ok.d f g pc false xt) ?_
 (simp only [Cb,AU,seval])
 have zz:=aq2 @mach.eq_1 @dg.eq_1;refine CI (C9 ok.q.okA f g pc false xt) ?_
 (simp only [Cb,seval])
 cases e with
 | none =>
   have zz:=aq3 Qi @EA.eq_1 @C6;refine IJ [198,150,1,2,3,4,5] [198,150,1,2] (hN) ?_
   (simp only [LW,Qi,Bz,Bp,seval])
   refine Aq.mk hx [0,1,2,3,4,5] [534] (TO ⟨f,g,pc,false,xt⟩ none l1 pre1) [(0,mach f g pc false xt),(1,EA (.sl 5 [] 0 q 32)),(2,Bv At Pr.zero pres)] 6 Ak (by (simp only [LV,BA,seval])) ?_ ?_ ⟨rfl,rfl,rfl⟩
   ·simp only [LV,Lbm,Gw,dg,CF,seval]
    refine ⟨by rfl,fun i hi=>?_⟩
    try rw [Nat.zero_add]
    exact N4 _ _ _ _
   ·simp only [EA,CF,seval]
 | some n =>
   have zz:=aq3 Qi @EA.eq_1 @C6;refine IJ [198,150,1,2,3,4,5] [198,150,1,2] (hN) ?_
   (simp only [LW,Qi,Av,Bp,SD,seval])
   have zz:=aq2 Lca OS;exact Bg hx [0,1,2,3,4,5] ⟨rfl,rfl,rfl⟩
def YJ (c:Ck) (h:Hd):Dg × Option Int:=if c.l=[] then (B2 c.root (DV h.g h.pc h.hl h.xt),none) else (Dg.zero,some 3)
def vfX (e:Option Int) (c:Ck) (h:Hd):Dg × Option Int:=match e with
 | some n=>(Dg.zero,some n)
 | none=>YJ c h
def vfy (claim root:Dg) (h:Hd) (l:List Pf) (pre:Pr):Dg × Option Int :=
 if ¬ B2 root (DV h.g h.pc h.hl h.xt)=claim then (Dg.zero,some 31)
 else if h.hl=true then YJ ⟨root,l,pre⟩ h
 else if 8192#64≤h.pc then YJ ⟨root,l,pre⟩ (h.stop Ap)
 else vfX (nx Ix h ⟨root,l,pre⟩).2.1 (nx Ix h ⟨root,l,pre⟩).2.2 (nx Ix h ⟨root,l,pre⟩).1
theorem Q6 (ok:OkOs M) (claim root:Dg) (g:Nat→BitVec 64) (pc:BitVec 64) (hl:Bool) (xt:BitVec 64) (l:List Pf) (pre:Pr) (hc:¬ B2 root (DV g pc hl xt)=claim) :
 Af M 98 [dg claim,Vf root ⟨g,pc,hl,xt⟩ l pre] [] 0 (Q3 (Ao (dg Dg.zero) (Cw (some 31))) [] 0):=by
 refine Ac ok.k98 rfl fun x hx=>?_
 refine es 2000 ?_;(simp only [f98,c98,Vf,Hd.v,AU,BA,seval])
 have zz:=aq2 @dg.eq_1 @AU.eq_1;refine Gy (D5 ok.q.okA ok.d root g pc hl xt) ?_
 (simp only [eq_false hc,BA,Yf,seval])
 have zz:=aq3 @Av @dg.eq_1 @LM;exact Bg hx [] ⟨rfl,rfl,rfl⟩
theorem KT (ok:OkOs M) (root:Dg) (g:Nat→BitVec 64) (pc:BitVec 64) (hl:Bool) (xt:BitVec 64) (l:List Pf) (pre:Pr) (g1:Nat→BitVec 64) (pc1:BitVec 64) (hl1:Bool) (xt1:BitVec 64) (e:Option Int) (c1:Ck)
 (hN:Af M 241 [AU g pc hl xt,.ifc 426 (.ptr 0 [])] [(0,(⟨root,l,pre⟩:Ck).vv)] 1 (Q3 (Ao (AU g1 pc1 hl1 xt1) (Cw e)) [(0,c1.vv)] 2)) (q:Dg × Option Int) (hq:vfX e c1 ⟨g1,pc1,hl1,xt1⟩=q) :
 Af M 98 [dg (B2 root (DV g pc hl xt)),Vf root ⟨g,pc,hl,xt⟩ l pre] [] 0 (Q3 (Ao (dg q.1) (Cw q.2)) [] 0):=by
 refine Ac ok.k98 rfl fun x hx=>?_
 obtain ⟨root1,l1,pre1⟩:=c1
 cases e with
 | some n =>
   have hq:(Dg.zero,some n)=q:=hq
   subst hq
   refine es 2000 ?_;(simp only [f98,c98,Vf,Hd.v,AU,BA,seval])
   have zz:=aq2 @dg.eq_1 @AU.eq_1;refine Gy (D5 ok.q.okA ok.d root g pc hl xt) ?_
   (simp only [BA,seval])
   have zz:=aq4 @Ck.vv.eq_1 @AU.eq_1 @dg.eq_1 Mt;refine IJ [400] [400] (hN) ?_
   (simp only [Ck.vv,LW,AU,Av,Yf,seval])
   have zz:=aq3 @Av @dg.eq_1 @LM;exact Bg hx [] ⟨rfl,rfl,rfl⟩
 | none =>
   have hq:YJ ⟨root1,l1,pre1⟩ ⟨g1,pc1,hl1,xt1⟩=q:=hq
   cases l1 with
   | nil =>
     rw [YJ,if_pos rfl] at hq
     subst hq
     refine es 2000 ?_;(simp only [f98,c98,Vf,Hd.v,AU,BA,seval])
     have zz:=aq2 @dg.eq_1 @AU.eq_1;refine Gy (D5 ok.q.okA ok.d root g pc hl xt) ?_
     (simp only [BA,seval])
     have zz:=aq4 @Ck.vv.eq_1 @AU.eq_1 @dg.eq_1 Mt;refine IJ [400] [400] (hN) ?_
     (simp only [Ck.vv,LW,AU,Bz,Yf,List.length_nil,seval])
     have zz:=aq2 @dg.eq_1 @AU.eq_1;refine Gy (D5 ok.q.okA ok.d root1 g1 pc1 hl1 xt1) ?_
     (simp only [BA,seval])
     have zz:=aq3 @Bz @dg.eq_1 @LM;exact Bg hx [] ⟨rfl,rfl,rfl⟩
   | cons p l1 =>
     rw [YJ,if_neg Bu] at hq
     subst hq
     have h0:((0:Int) < ((l1.length + 1:Nat):Int))=True:=eq_true Aa
     refine es 2000 ?_;(simp only [f98,c98,Vf,Hd.v,AU,BA,seval])
     have zz:=aq2 @dg.eq_1 @AU.eq_1;refine Gy (D5 ok.q.okA ok.d root g pc hl xt) ?_
     (simp only [BA,seval])
     have zz:=aq4 @Ck.vv.eq_1 @AU.eq_1 @dg.eq_1 Mt;refine IJ [400] [400] (hN) ?_
     (simp only [Ck.vv,LW,AU,Bz,Yf,List.length_cons,h0,seval])
     have zz:=aq3 @Av @dg.eq_1 @LM;exact Bg hx [] ⟨rfl,rfl,rfl⟩
theorem OT (ok:OkOs M) (claim root:Dg) (h:Hd) (l:List Pf) (pre:Pr) :
 Af M 98 [dg claim,Vf root h l pre] [] 0 (Q3 (Ao (dg (vfy claim root h l pre).1) (Cw (vfy claim root h l pre).2)) [] 0):=by
 obtain ⟨g,pc,hl,xt⟩:=h
 unfold vfy
 by_cases hc:B2 root (DV g pc hl xt)=claim
 ·rw [if_neg (fun h=>h hc)]
  subst hc
  cases hl with
  | true =>
    rw [if_pos rfl]
    exact KT ok root g pc true xt l pre g pc true xt none ⟨root,l,pre⟩ (IB ok.q (ckI ok.q.okA ok.q.ok.toOkH ok.c) g pc xt ⟨root,l,pre⟩) _ rfl
  | false =>
    rw [if_neg Bu]
    by_cases hpc:8192#64≤pc
    ·rw [if_pos hpc]
     exact KT ok root g pc false xt l pre g pc true Ap none ⟨root,l,pre⟩ (GK ok.q (ckI ok.q.okA ok.q.ok.toOkH ok.c) g pc xt ⟨root,l,pre⟩ hpc) _ rfl
    ·rw [if_neg hpc]
     generalize hq:nx Ix ⟨g,pc,false,xt⟩ ⟨root,l,pre⟩=q
     obtain ⟨⟨g1,pc1,hl1,xt1⟩,e,c1⟩:=q
     exact KT ok root g pc false xt l pre g1 pc1 hl1 xt1 e c1 (I2 ok.q (ckI ok.q.okA ok.q.ok.toOkH ok.c) ⟨g,pc,false,xt⟩ ⟨root,l,pre⟩ trivial rfl hpc _ hq) _ rfl
 ·rw [if_pos hc]
  exact Q6 ok claim root g pc hl xt l pre hc
def An8 (m:Mc) (q:Hd × Option Int × Ps):Mc:=match q.2.1 with
 | none=>⟨q.2.2.f,q.1.g,q.1.pc,q.1.hl,q.1.xt⟩
 | some _=>⟨m.f,m.g,m.pc,true,Kq⟩
def Tr (pres:List (Dg × Pr)) (m:Mc):Mc :=
 if m.hl=true then m else if 8192#64≤m.pc then ⟨m.f,m.g,m.pc,true,Ap⟩
 else An8 m (nx (Fc pres) m.h ⟨m.f,[],Pr.zero⟩)
theorem Aok (pres:List (Dg × Pr)) (f g:Nat→BitVec 64) (pc xt:BitVec 64) (hpc:¬ 8192#64≤pc) :
 Tr pres ⟨f,g,pc,false,xt⟩=An8 ⟨f,g,pc,false,xt⟩ (Of (Fc pres) ⟨g,pc,false,xt⟩ (f pc.toNat) ⟨f,[Bf f pc],Pr.zero⟩):=by
 rw [Tr,if_neg Bu,if_neg hpc]
 rfl
theorem Aoi {M:Seat} (ok:OkV M) (okP:OkP M) (f g:Nat→BitVec 64) (pc xt:BitVec 64) (hpc:¬ 8192#64≤pc) (w:BitVec 64) (hw:f pc.toNat=w) (op:Nat) (h1:1≤op) (h25:op≤25) (hop:AT w=op) (h2:w >>> 32 &&& 255#64=0#64) :
 Af M 70 [.ptr 0 [],.ptr 1 []] [(0,mach f g pc false xt)] 2 (Q3 .nili [(0,mach f (E9 g (pF w 52) (P1 op (g (pF w 48)) (g (pF w 44)) (g (pF w 40)))) (pc + 1#64) false xt)] 2):=by
 have hv:=JY okP op h1 h25 (g (pF w 48)) (g (pF w 44)) (g (pF w 40))
 refine Ac ok.k70 rfl fun x hx=>?_
 have hp:pc.toNat < 8192:=BM
 have a1:=Ai w 52
 have a2:=Ai w 48
 have a3:=Ai w 44
 have a4:=Ai w 40
 have d1:((op:Int)=0)=False:=eq_false Aa
 have d2:((op:Int) < 26)=True:=eq_true Aa
 refine es 2000 ?_;(simp only [Lcb,hpc,hw,seval])
 repeat refine sd ?_
 have zz:=@Bb.eq_1;refine Gy (Az ok w Aa h2) ?_
 (simp only [Hi,hop,d1,d2,seval])
 repeat refine sd ?_
 refine BI (hv) ?_
 (simp only [Cb,seval])
 repeat refine sd ?_
 have zz:=aq2 @mach.eq_1 Og;exact Bg hx [0,1] ⟨rfl,rfl,rfl⟩
theorem Api (op:Nat) (f g:Nat→BitVec 64) (pc xt:BitVec 64) (d a:Nat) (to:BitVec 64):Sm op f g pc xt d a to=(⟨f,(Vx op ⟨g,pc,false,xt⟩ d a to).g,(Vx op ⟨g,pc,false,xt⟩ d a to).pc,(Vx op ⟨g,pc,false,xt⟩ d a to).hl,(Vx op ⟨g,pc,false,xt⟩ d a to).xt⟩:Mc).v:=by
 unfold Sm Vx
 repeat' split
 all_goals rfl
theorem Apb {M:Seat} (ok:OkO M) (okP:OkP M) (pres:List (Dg × Pr)) (m:Mc) (h:¬ Aaj m):Y1 M m (Tr pres m):=by
 obtain ⟨f,g,pc,hl,xt⟩:=m
 cases hl with
 | true =>
   rw [Tr,if_pos rfl]
   exact Fh ok.toOkV f g pc xt
 | false =>
   by_cases hpc:8192#64≤pc
   ·rw [Tr,if_neg Bu,if_pos hpc]
    exact MN ok.toOkV f g pc xt hpc
   rw [Aok pres f g pc xt hpc]
   have key:∀ q:Hd × Option Int × Ps,Of (Fc pres) ⟨g,pc,false,xt⟩ (f pc.toNat) ⟨f,[Bf f pc],Pr.zero⟩=q→Af M 70 [.ptr 0 [],.ptr 1 []] [(0,mach f g pc false xt)] 2 (Q3 .nili [(0,(An8 ⟨f,g,pc,false,xt⟩ q).v)] 2) →
    Y1 M ⟨f,g,pc,false,xt⟩ (An8 ⟨f,g,pc,false,xt⟩ (Of (Fc pres) ⟨g,pc,false,xt⟩ (f pc.toNat) ⟨f,[Bf f pc],Pr.zero⟩)):=fun q hq hr=>by rw [hq];exact hr
   have hask:Aaj ⟨f,g,pc,false,xt⟩=Aaj ⟨f,g,pc,false,xt⟩:=rfl
   unfold Aaj at h
   dsimp only at h
   by_cases q0:isI (f pc.toNat)=false
   ·refine key _ (by rw [Of,if_pos q0]) ?_
    exact NT ok.toOkV f g pc xt hpc _ rfl (fun h=>by rw [(Nm _).2 h] at q0;cases q0)
   obtain ⟨h35,h2⟩:=(Nm _).1 (by simpa using q0)
   by_cases q1:AT (f pc.toNat)=0
   ·refine key _ (by rw [Of,if_neg q0,if_pos q1]) ?_
    exact Gu ok.toOkV f g pc xt hpc _ rfl q1 h2
   by_cases q2:AT (f pc.toNat) < 26
   ·refine key _ (by rw [Of,if_neg q0,if_neg q1,if_pos q2]) ?_
    exact Aoi ok.toOkV okP f g pc xt hpc _ rfl (AT (f pc.toNat)) Aa Aa rfl h2
   by_cases q3:AT (f pc.toNat)=26
   ·refine key _ (by rw [Of,if_neg q0,if_neg q1,if_neg q2,if_pos q3]) ?_
    exact PM ok.toOkV f g pc xt hpc _ rfl q3 h2
   by_cases q4:AT (f pc.toNat)=27 ∨ AT (f pc.toNat)=28
   ·by_cases hwh:8192#64≤g (pF (f pc.toNat) 48) + BitVec.ofInt 64 (pN (f pc.toNat))
    ·refine key _ (by rw [Of,if_neg q0,if_neg q1,if_neg q2,if_neg q3,if_pos q4,if_pos hwh]) ?_
     rcases q4 with q4 | q4
     ·exact GG ok.toOkV f g pc xt hpc _ rfl q4 h2 _ rfl hwh
     ·exact Gt ok.toOkV f g pc xt hpc _ rfl q4 h2 _ rfl hwh
    ·by_cases q5:AT (f pc.toNat)=27
     ·refine key _ (by rw [Of,if_neg q0,if_neg q1,if_neg q2,if_neg q3,if_pos q4,if_neg hwh,if_pos q5]) ?_
      exact L2 ok.toOkV f g pc xt hpc _ rfl q5 h2 _ rfl hwh
     ·refine key _ (by rw [Of,if_neg q0,if_neg q1,if_neg q2,if_neg q3,if_pos q4,if_neg hwh,if_neg q5]) ?_
      exact K5 ok.toOkV f g pc xt hpc _ rfl (q4.resolve_left q5) h2 _ rfl hwh
   by_cases q7:AT (f pc.toNat) < 34
   ·refine key _ (by rw [Of,if_neg q0,if_neg q1,if_neg q2,if_neg q3,if_neg q4,if_pos q7]) ?_
    have hJ:=Cz ok.toOkV (AT (f pc.toNat)) Aa f g pc xt hpc _ rfl rfl h2
    rw [Api] at hJ
    exact hJ
   by_cases q8:AT (f pc.toNat)=34
   ·have hw:(wi (g (pF (f pc.toNat) 48)) 8#64 && wi (g (pF (f pc.toNat) 44)) 4#64)=false:=by
     cases hb:(wi (g (pF (f pc.toNat) 48)) 8#64 && wi (g (pF (f pc.toNat) 44)) 4#64) with
     | false=>rfl
     | true=>exact absurd ⟨rfl,hpc,h2,.inl ⟨q8,hb⟩⟩ h
    refine key ((⟨g,pc,false,xt⟩:Hd).stop Ap,none,⟨f,[Bf f pc],Pr.zero⟩) ?_ (Ju ok f g pc xt hpc _ rfl q8 h2 hw)
    rw [Of,if_neg q0,if_neg q1,if_neg q2,if_neg q3,if_neg q4,if_neg q7,MX,if_pos]
    rw [q8];exact hw
   ·have q8:AT (f pc.toNat)=35:=Aa
    have hw:(wi (g (pF (f pc.toNat) 48)) 4#64 && wi (g (pF (f pc.toNat) 44)) 8#64)=false:=by
     cases hb:(wi (g (pF (f pc.toNat) 48)) 4#64 && wi (g (pF (f pc.toNat) 44)) 8#64) with
     | false=>rfl
     | true=>exact absurd ⟨rfl,hpc,h2,.inr ⟨q8,hb⟩⟩ h
    refine key ((⟨g,pc,false,xt⟩:Hd).stop Ap,none,⟨f,[Bf f pc],Pr.zero⟩) ?_ (Jh ok f g pc xt hpc _ rfl q8 h2 hw)
    rw [Of,if_neg q0,if_neg q1,if_neg q2,if_neg q3,if_neg q4,if_neg q7,MX,if_pos]
    rw [q8];exact hw
structure OkT (M:Seat):Prop where
 okA:OkM M
 ok:OkO M
 okP:OkP M
theorem Aoy {p q:Nat→BitVec 8} (h:∀ j,j < 64→p j=q j):Pr.mk' p=Pr.mk' q:=by
 unfold Pr.mk'
 congr 1
 exact List.map_congr_left fun j hj=>h j (List.mem_range.1 hj)
theorem Ao0 {p q:Nat→BitVec 8} (h:∀ j,j < 32→p j=q j):Dg.mk' p=Dg.mk' q:=by
 unfold Dg.mk'
 congr 1
 exact List.map_congr_left fun j hj=>h j (List.mem_range.1 hj)
theorem Aow (f:Nat→BitVec 64) (a:BitVec 64) (n j:Nat) (h:a.toNat + n≤8192) (hj:j < 8 * n):CS (rdL f a n 0) j=A6 (fun j=>f (a.toNat + j)) j:=by
 rw [CS,A6,A6,Ao2 f a n 0 (j / 8) Aa Aa,Nat.add_zero]
theorem Aov (pres:List (Dg × Pr)) (f g:Nat→BitVec 64) (pc xt:BitVec 64) (hpc:¬ 8192#64≤pc) (w:BitVec 64) (hw:f pc.toNat=w) (hop:AT w=34) (h2:w >>> 32 &&& 255#64=0#64) (h3:wi (g (pF w 48)) 8#64=true) (h4:wi (g (pF w 44)) 4#64=true) :
 Tr pres ⟨f,g,pc,false,xt⟩=⟨fun j=>if (g (pF w 44)).toNat≤j∧j < (g (pF w 44)).toNat + 4 then Jp (fun i=>(B9 (Pr.mk' (A6 fun j=>f ((g (pF w 48)).toNat + j))).at).at (8 * (j - (g (pF w 44)).toNat) + i)) 8 else f j,g,pc + 1#64,false,xt⟩:=by
 have ha:(g (pF w 48)).toNat + 8≤8192:=B8 h3
 have hb:(g (pF w 44)).toNat + 4≤8192:=B8 h4
 have q0:¬ isI w=false:=by rw [(Nm w).2 ⟨by omega,h2⟩];simp
 rw [Aok pres f g pc xt hpc,hw,Of,if_neg q0,if_neg Aa,if_neg Aa,if_neg Aa,if_neg Aa,if_neg Aa,hop]
 dsimp only
 rw [MX,if_neg (by simp [h3,h4])]
 rw [show (if (34:Nat)=35 then 4 else 8)=8 from rfl,VY]
 dsimp only
 rw [if_pos rfl,GL,Ri]
 have hP:Pr.mk' (CS (rdL f (g (pF w 48)) 8 0))=Pr.mk' (A6 fun j=>f ((g (pF w 48)).toNat + j)):=Aoy (fun j hj=>Aow f _ 8 j ha Aa)
 rw [List.nil_append,hP]
 show (⟨_,_,_,_,_⟩:Mc)=_
 congr 1
 funext j
 dsimp only
 rw [Aou _ _ 4 0 f j Aa]
 simp only [Nat.add_zero,Vh]
theorem Aoz (pres:List (Dg × Pr)) (f g:Nat→BitVec 64) (pc xt:BitVec 64) (hpc:¬ 8192#64≤pc) (w:BitVec 64) (hw:f pc.toNat=w) (hop:AT w=35) (h2:w >>> 32 &&& 255#64=0#64) (h3:wi (g (pF w 48)) 4#64=true) (h4:wi (g (pF w 44)) 8#64=true) :
 pQ f g pc xt (g (pF w 44)) (Dv (Dg.mk' (A6 fun j=>f ((g (pF w 48)).toNat + j))) pres)=(Tr pres ⟨f,g,pc,false,xt⟩).v:=by
 have ha:(g (pF w 48)).toNat + 4≤8192:=B8 h3
 have hb:(g (pF w 44)).toNat + 8≤8192:=B8 h4
 have q0:¬ isI w=false:=by rw [(Nm w).2 ⟨by omega,h2⟩];simp
 rw [Aok pres f g pc xt hpc,hw,Of,if_neg q0,if_neg Aa,if_neg Aa,if_neg Aa,if_neg Aa,if_neg Aa,hop]
 dsimp only
 rw [MX,if_neg (by simp [h3,h4])]
 rw [show (if (35:Nat)=35 then 4 else 8)=4 from rfl,VY]
 dsimp only
 have hP:Dg.mk' (CS (rdL f (g (pF w 48)) 4 0))=Dg.mk' (A6 fun j=>f ((g (pF w 48)).toNat + j)):=Ao0 (fun j hj=>Aow f _ 4 j ha Aa)
 rw [if_neg Aa,QC,show (Fc pres).pi=OP pres from rfl,OP,List.nil_append,hP]
 cases Dv (Dg.mk' (A6 fun j=>f ((g (pF w 48)).toNat + j))) pres with
 | none=>rfl
 | some p =>
   dsimp only
   rw [GL,Ri]
   show mach _ _ _ _ _=mach _ _ _ _ _
   congr 1
   funext j
   refine Eq.trans ?_ (Aou _ _ 8 0 f j Aa).symm
   simp only [Nat.add_zero,Vh]
theorem Ja {α:Type} (k k':Dg) (hne:¬ k'=k) (x:α):∀ l:List (Dg × α),Dv k' (CG k x l)=Dv k' l
 | []=>by simp [CG,Dv,hne]
 | (h, y) :: r => by
   by_cases e:k=h
   ·subst e;simp [CG,Dv,hne]
   ·have:=Ja k k' hne x r
    simp only [CG,e,if_false,Dv,this]
theorem QY (w:WS) (p:Pr) (h:JT w.pres):JT (w.add p).pres:=by
 intro k q hk
 rw [WS.add,Xv] at hk
 dsimp only at hk
 by_cases e:k=B9 p.at
 ·subst e
  rw [Om] at hk
  cases hk;rfl
 ·rw [Ja _ _ e] at hk
  exact h k q hk
end Mv
