/- A part. -/
import Derived.Test.YtlfkjfonpacelaaGreatDoorFJ
set_option linter.all false
set_option maxRecDepth 20000
set_option maxHeartbeats 4000000
namespace Mv
open Go
theorem Gb (w:BitVec 64):isI w=true ↔ (BS w≤35∧w >>> 32 &&& 255#64=0#64):=by simp [isI]
theorem I6 {M:Seat} (ok:OkQ M) (I:MemI M) (h:Hd) (s:I.σ) (hz:I.Z s) (hl:h.hl=false) (hpc:¬ 8192#64≤h.pc) (q:Hd × Option Int × I.σ) (hq:nx I.mm h s=q) :
 Af M 241 [h.v,.ifc I.t (.ptr 0 [])] (I.E0 s) I.k0 (Q3 (Ah q.1.v (Cr q.2.1)) (I.E q.2.2 I.k0) (I.k0 + 1)):=by
 obtain ⟨g,pc,hl',xt⟩:=h
 dsimp only at hl hpc
 subst hl
 rw [nx] at hq
 cases he:(I.mm.rd s pc).2.1 with
 | some e =>
   have h0:=RN ok I g pc xt s hz hpc e he
   dsimp only at hq
   rw [he] at hq
   subst hq
   exact h0
 | none =>
   dsimp only at hq
   rw [he] at hq
   dsimp only at hq
   generalize hw:(I.mm.rd s pc).1=w at hq
   generalize hs:(I.mm.rd s pc).2.2=s1 at hq
   unfold MT at hq
   by_cases q0:isI w=false
   ·rw [if_pos q0] at hq;subst hq
    exact Uy ok I g pc xt s hz hpc w hw he s1 hs (fun h=>by rw [(Gb w).2 h] at q0;cases q0)
   rw [if_neg q0] at hq
   obtain ⟨h35,h2⟩:=(Gb w).1 (by simpa using q0)
   by_cases q1:BS w=0
   ·rw [if_pos q1] at hq;subst hq
    exact PP ok I g pc xt s hz hpc w hw he s1 hs q1 h2
   rw [if_neg q1] at hq
   by_cases q2:BS w < 26
   ·rw [if_pos q2] at hq;subst hq
    exact MO ok I g pc xt s hz hpc w hw he s1 hs (BS w) Aa Aa rfl h2
   rw [if_neg q2] at hq
   by_cases q3:BS w=26
   ·rw [if_pos q3] at hq;subst hq
    exact Ur ok I g pc xt s hz hpc w hw he s1 hs q3 h2
   rw [if_neg q3] at hq
   by_cases q4:BS w=27 ∨ BS w=28
   ·rw [if_pos q4] at hq
    by_cases q5:8192#64≤g (pF w 48) + BitVec.ofInt 64 (pN w)
    ·rw [if_pos q5] at hq;subst hq
     rcases q4 with q4 | q4
     ·exact Sr ok I g pc xt s hz hpc w hw he s1 hs q4 h2 _ rfl q5
     ·exact RG ok I g pc xt s hz hpc w hw he s1 hs q4 h2 _ rfl q5
    rw [if_neg q5] at hq
    by_cases q6:BS w=27
    ·rw [if_pos q6] at hq;subst hq
     dsimp only
     cases he2:(I.mm.rd s1 (g (pF w 48) + BitVec.ofInt 64 (pN w))).2.1 with
     | none=>exact Vo ok I g pc xt s hz hpc w hw he s1 hs q6 h2 _ rfl q5 he2
     | some e=>exact Si ok I g pc xt s hz hpc w hw he s1 hs q6 h2 _ rfl q5 e he2
    ·rw [if_neg q6] at hq;subst hq
     dsimp only
     have q6:BS w=28:=q4.resolve_left q6
     cases he2:(I.mm.wr s1 (g (pF w 48) + BitVec.ofInt 64 (pN w)) (g (pF w 44))).1 with
     | none=>exact Up ok I g pc xt s hz hpc w hw he s1 hs q6 h2 _ rfl q5 he2
     | some e=>exact Sa ok I g pc xt s hz hpc w hw he s1 hs q6 h2 _ rfl q5 e he2
   rw [if_neg q4] at hq
   by_cases q7:BS w < 34
   ·rw [if_pos q7] at hq;subst hq
    exact Po ok I g pc xt s hz hpc w hw he s1 hs (BS w) Aa rfl h2
   rw [if_neg q7] at hq
   by_cases q8:BS w=34
   ·dsimp only at hq
    rw [q8] at hq
    by_cases q9:(wi (g (pF w 48)) 8#64 && wi (g (pF w 44)) 4#64)=false
    ·have:Re I.mm 34 ⟨g,pc,false,xt⟩ s1 (g (pF w 48)) (g (pF w 44))=((⟨g,pc,false,xt⟩:Hd).stop A8,none,s1):=by rw [Re,if_pos];exact q9
     rw [this] at hq;subst hq
     exact Ls ok I g pc xt s hz hpc w hw he s1 hs q8 h2 q9
    ·simp only [Bool.not_eq_false,Bool.and_eq_true] at q9
     exact NC ok I g pc xt s hz hpc w hw he s1 hs q8 h2 q9.1 q9.2 q hq
   ·have q8:BS w=35:=Aa
    dsimp only at hq
    rw [q8] at hq
    by_cases q9:(wi (g (pF w 48)) 4#64 && wi (g (pF w 44)) 8#64)=false
    ·have:Re I.mm 35 ⟨g,pc,false,xt⟩ s1 (g (pF w 48)) (g (pF w 44))=((⟨g,pc,false,xt⟩:Hd).stop A8,none,s1):=by rw [Re,if_pos];exact q9
     rw [this] at hq;subst hq
     exact Lw ok I g pc xt s hz hpc w hw he s1 hs q8 h2 q9
    ·simp only [Bool.not_eq_false,Bool.and_eq_true] at q9
     exact NK ok I g pc xt s hz hpc w hw he s1 hs q8 h2 q9.1 q9.2 q hq
theorem PQ {α:Type} (k:Dg) (x:α):∀ l:List (Dg × α),Dt k (CW k x l)=some x
 | []=>by simp [CW,Dt]
 | (h, y) :: r => by
   by_cases e:k=h
   ·simp [CW,Dt,e]
   ·have:=PQ k x r
    simp [CW,Dt,e,this]
def YW (f:Nat→BitVec 64) (a:BitVec 64):Nat→Nat→List (BitVec 64)
 | 0,_=>[]
 | n + 1,i=>f (a + BitVec.ofNat 64 i).toNat :: YW f a n (i + 1)
def rdP (f:Nat→BitVec 64) (a:BitVec 64):Nat→Nat→List Pf
 | 0,_=>[]
 | n + 1,i=>AY f (a + BitVec.ofNat 64 i) :: rdP f a n (i + 1)
def wrF (a:BitVec 64) (v:Nat→BitVec 64):Nat→Nat→(Nat→BitVec 64)→Nat→BitVec 64
 | 0,_,f=>f
 | n + 1,i,f=>wrF a v n (i + 1) (Ig f (a + BitVec.ofNat 64 i).toNat (v i))
def wrP (a:BitVec 64) (v:Nat→BitVec 64):Nat→Nat→(Nat→BitVec 64)→List Pf
 | 0,_,_=>[]
 | n + 1,i,f=>AY f (a + BitVec.ofNat 64 i) :: wrP a v n (i + 1) (Ig f (a + BitVec.ofNat 64 i).toNat (v i))
theorem RU (pres:List (Dg × Pr)) (a:BitVec 64):∀ (n i:Nat) (s:Ps) (l:List (BitVec 64)),Qv (Hk pres) a n i s l=(none,⟨s.f,s.l ++ rdP s.f a n i,s.pre⟩,l ++ YW s.f a n i)
 | 0,i,s,l=>by simp [Qv,rdP,YW]
 | n + 1, i, s, l => by
   rw [Qv]
   show Qv (Hk pres) a n (i + 1) ⟨s.f,s.l ++ [AY s.f (a + BitVec.ofNat 64 i)],s.pre⟩ (l ++ [s.f (a + BitVec.ofNat 64 i).toNat])=_
   rw [RU pres a n (i + 1)]
   simp [rdP,YW]
theorem Rv (pres:List (Dg × Pr)) (a:BitVec 64) (v:Nat→BitVec 64):∀ (n i:Nat) (s:Ps),Zk (Hk pres) a v n i s=(none,⟨wrF a v n i s.f,s.l ++ wrP a v n i s.f,s.pre⟩)
 | 0,i,s=>by simp [Zk,wrF,wrP]
 | n + 1, i, s => by
   rw [Zk]
   show Zk (Hk pres) a v n (i + 1) ⟨Ig s.f (a + BitVec.ofNat 64 i).toNat (v i),s.l ++ [AY s.f (a + BitVec.ofNat 64 i)],s.pre⟩=_
   rw [Rv pres a v n (i + 1)]
   simp [wrF,wrP]
theorem W0 (f:Nat→BitVec 64) (a:BitVec 64):∀ n i j,a.toNat + (i + n)≤8192→j < n→(YW f a n i).getD j 0#64=f (a.toNat + i + j)
 | n + 1, i, 0, h, _ => by
   have:(a + BitVec.ofNat 64 i).toNat=a.toNat + i:=by rw [BitVec.toNat_add,DY i Aa];omega
   simp [YW,this]
 | n + 1, i, j + 1, h, hj => by
   have:=W0 f a n (i + 1) j Aa Aa
   simp only [YW,List.getD_cons_succ,this]
   congr 1;omega
theorem Sk (a:BitVec 64) (v:Nat→BitVec 64):∀ n i f j,a.toNat + (i + n)≤8192→wrF a v n i f j=if a.toNat + i≤j∧j < a.toNat + i + n then v (j - a.toNat) else f j
 | 0,i,f,j,_=>by simp only [wrF];rw [if_neg Aa]
 | n + 1, i, f, j, h => by
   have e:(a + BitVec.ofNat 64 i).toNat=a.toNat + i:=by rw [BitVec.toNat_add,DY i Aa];omega
   rw [wrF,Sk a v n (i + 1) _ j Aa,Ig,e]
   by_cases h1:j=a.toNat + i
   ·subst h1
    rw [if_neg Aa,if_pos rfl,if_pos Aa]
    congr 1;omega
   ·rw [if_neg h1]
    by_cases h2:a.toNat + (i + 1)≤j∧j < a.toNat + (i + 1) + n
    ·rw [if_pos h2,if_pos Aa]
    ·rw [if_neg h2,if_neg Aa]
def Cb (pres:List (Dg × Pr)):Prop:=∀ h p,Dt h pres=some p→Cf p.at=h
variable {M:Seat}
structure OkOs (M:Seat):Prop where
 q:OkQ M
 d:OkD M
 c:OkCk M
 p:OkPr M
 k97:Av M 97 Zf=true
def DM (root:Dg) (h:Hd) (l:List Pf) (pre:Pr):V:=.st 116 (.fcons 0 (dg root) (.fcons 32 h.v (.fcons 51 (.lst 2 l.length (Dp l)) (.fcons 52 (A9 pre) .fnil))))
def Mc.h (m:Mc):Hd:=⟨m.g,m.pc,m.hl,m.xt⟩
def GX (m:Mc) (e:Option Int) (l:List Pf) (pre:Pr):V:=match e with
 | none=>Ah (DM (BP m.f 13 0) m.h l pre) .nili
 | some n=>Ah (DM Dg.zero ⟨fun _=>0#64,0#64,false,0#64⟩ [] Pr.zero) (.ifc 74 (.int .i64 n))
def Q4:=(YF @Hd.v.eq_1 @Mc.h.eq_1 @AP.eq_1 @GX.eq_1 @GX.eq_2 @DM.eq_1)
def GC (va:V):V:=.st 4 (.fcons 0 (.map 2) (.fcons 1 (.ptr 3 []) (.fcons 2 (.map 4) (.fcons 3 va .fnil))))
def Lca:=(N8 @LM @Q4 @YZ @List.length_nil.{0} @GC.eq_1)
theorem Rh (ok:OkOs M) (f g:Nat→BitVec 64) (pc xt:BitVec 64) (pres:List (Dg × Pr)) (q:Nat) :
 Af M 97 [.ptr 0 [],.ptr 1 []] [(0,mach f g pc true xt),(1,GC (.nils)),(2,Bd A9 Pr.zero pres)] 5
  (Q3 (GX ⟨f,g,pc,true,xt⟩ none [] Pr.zero) [(0,mach f g pc true xt),(1,GC (.nils)),(2,Bd A9 Pr.zero pres)] 5):=by
 refine Ab ok.k97 rfl fun x hx=>?_
 have hN:Af M 241 [AP g pc true xt,.ifc 422 (.ptr 0 [])] [(0,Dx .nils Pr.zero),(1,mach f g pc true xt),(2,stP (.nils)),(3,Bd A9 Pr.zero pres)] 6 (Q3 (Ah (AP g pc true xt) .nili) [(0,Dx .nils Pr.zero),(1,mach f g pc true xt),(2,stP (.nils)),(3,Bd A9 Pr.zero pres)] (6 + 1)) :=
  Ir ok.q (Afv ok.q.okA ok.q.ok ok.p g pc true xt pres q) g pc xt ⟨f,[],Pr.zero⟩
 refine es 2000 ?_;(simp only [Zf,Zc,LZ,seval])
 have zz:=@mach.eq_1;refine Ia (BL ok.q.okA f g pc true xt) ?_
 (simp only [As,N3,LZ,seval])
 have zz:=Bc @mach.eq_1 @AP.eq_1;refine CV (BX ok.d f g pc true xt) ?_
 (simp only [BV,AP,seval])
 have zz:=Bc @mach.eq_1 @dg.eq_1;refine CV (Ca ok.q.okA f g pc true xt) ?_
 (simp only [BV,seval])
 have zz:=CC Qt @GC.eq_1 @Ce;refine Df [197,149,1,2,3,4] [197,149,1,2] (hN) ?_
 (simp only [Dq,Qt,As,seval])
 have zz:=Bc Lca @dg.eq_1;exact Bz hx [0,1,2,3,4] ⟨rfl,rfl,rfl⟩
theorem PO (ok:OkOs M) (f g:Nat→BitVec 64) (pc xt:BitVec 64) (hpc:8192#64≤pc) (pres:List (Dg × Pr)) (q:Nat) :
 Af M 97 [.ptr 0 [],.ptr 1 []] [(0,mach f g pc false xt),(1,GC (.nils)),(2,Bd A9 Pr.zero pres)] 5
  (Q3 (GX ⟨f,g,pc,false,xt⟩ none [] Pr.zero) [(0,mach f g pc false xt),(1,GC (.nils)),(2,Bd A9 Pr.zero pres)] 5):=by
 refine Ab ok.k97 rfl fun x hx=>?_
 have hN:Af M 241 [AP g pc false xt,.ifc 422 (.ptr 0 [])] [(0,Dx .nils Pr.zero),(1,mach f g pc false xt),(2,stP (.nils)),(3,Bd A9 Pr.zero pres)] 6 (Q3 (Ah (AP g pc true A8) .nili) [(0,Dx .nils Pr.zero),(1,mach f g pc false xt),(2,stP (.nils)),(3,Bd A9 Pr.zero pres)] (6 + 1)) :=
  GW ok.q (Afv ok.q.okA ok.q.ok ok.p g pc false xt pres q) g pc xt ⟨f,[],Pr.zero⟩ hpc
 refine es 2000 ?_;(simp only [Zf,Zc,LZ,seval])
 have zz:=@mach.eq_1;refine Ia (BL ok.q.okA f g pc false xt) ?_
 (simp only [As,N3,LZ,seval])
 have zz:=Bc @mach.eq_1 @AP.eq_1;refine CV (BX ok.d f g pc false xt) ?_
 (simp only [BV,AP,seval])
 have zz:=Bc @mach.eq_1 @dg.eq_1;refine CV (Ca ok.q.okA f g pc false xt) ?_
 (simp only [BV,seval])
 have zz:=CC Qt @GC.eq_1 @Ce;refine Df [197,149,1,2,3,4] [197,149,1,2] (hN) ?_
 (simp only [Dq,Qt,As,seval])
 have zz:=Bc Lca @dg.eq_1;exact Bz hx [0,1,2,3,4] ⟨rfl,rfl,rfl⟩
theorem TO (ok:OkOs M) (f g:Nat→BitVec 64) (pc xt:BitVec 64) (hpc:¬ 8192#64≤pc) (pres:List (Dg × Pr)) (q:Nat) (h1:Hd) (e:Option Int) (s1:Ps) (hq:nx (Hk pres) ⟨g,pc,false,xt⟩ ⟨f,[],Pr.zero⟩=(h1,e,s1)) :
 Af M 97 [.ptr 0 [],.ptr 1 []] [(0,mach f g pc false xt),(1,GC (.nils)),(2,Bd A9 Pr.zero pres)] 5
  (Q3 (GX ⟨f,g,pc,false,xt⟩ e s1.l s1.pre) [(0,mach f g pc false xt),(1,GC (.nils)),(2,Bd A9 Pr.zero pres)] 5):=by
 refine Ab ok.k97 rfl fun x hx=>?_
 obtain ⟨g1,pc1,hl1,xt1⟩:=h1
 obtain ⟨f1,l1,pre1⟩:=s1
 have hN:Af M 241 [AP g pc false xt,.ifc 422 (.ptr 0 [])] [(0,Dx .nils Pr.zero),(1,mach f g pc false xt),(2,stP (.nils)),(3,Bd A9 Pr.zero pres)] 6 (Q3 (Ah (AP g1 pc1 hl1 xt1) (Cr e)) [(0,Dx (.sl 6 [] 0 l1.length 2) pre1),(1,mach f1 g pc false xt),(2,stP (.nils)),(3,Bd A9 Pr.zero pres),(6,.ar 2 l1.length (Dp l1))] (6 + 1)) :=
  I6 ok.q (Afv ok.q.okA ok.q.ok ok.p g pc false xt pres q) ⟨g,pc,false,xt⟩ ⟨f,[],Pr.zero⟩ rfl rfl hpc _ hq
 refine es 2000 ?_;(simp only [Zf,Zc,LZ,seval])
 have zz:=@mach.eq_1;refine Ia (BL ok.q.okA f g pc false xt) ?_
 (simp only [As,N3,LZ,seval])
 have zz:=Bc @mach.eq_1 @AP.eq_1;refine CV (BX ok.d f g pc false xt) ?_
 (simp only [BV,AP,seval])
 have zz:=Bc @mach.eq_1 @dg.eq_1;refine CV (Ca ok.q.okA f g pc false xt) ?_
 (simp only [BV,seval])
 cases e with
 | none =>
   have zz:=CC Qt @GC.eq_1 @Ce;refine Df [197,149,1,2,3,4] [197,149,1,2] (hN) ?_
   (simp only [Ld,Qt,Bm,As,seval])
   refine Ap.mk hx [0,1,2,3,4] [533] (GX ⟨f,g,pc,false,xt⟩ none l1 pre1) [(0,mach f g pc false xt),(1,GC (.nils)),(2,Bd A9 Pr.zero pres)] 5 Aj (by (simp only [LV,BA,seval])) ?_ ?_ ⟨rfl,rfl,rfl⟩
   ·simp only [LV,Q4,Dq,dg,Cm,seval]
    refine ⟨by rfl,fun i hi=>?_⟩
    try rw [Nat.zero_add]
    exact J7 _ _ _ _
   ·simp only [GC,Cm,seval]
 | some n =>
   have zz:=CC Qt @GC.eq_1 @Ce;refine Df [197,149,1,2,3,4] [197,149,1,2] (hN) ?_
   (simp only [Ld,Qt,AE,As,N3,seval])
   have zz:=Bc Lca Lbc;exact Bz hx [0,1,2,3,4] ⟨rfl,rfl,rfl⟩
theorem R7 (ok:OkOs M) (f g:Nat→BitVec 64) (pc xt:BitVec 64) (pres:List (Dg × Pr)) (q:Nat) :
 Af M 97 [.ptr 0 [],.ptr 1 []] [(0,mach f g pc true xt),(1,GC (.sl 5 [] 0 q 32)),(2,Bd A9 Pr.zero pres)] 6
  (Q3 (GX ⟨f,g,pc,true,xt⟩ none [] Pr.zero) [(0,mach f g pc true xt),(1,GC (.sl 5 [] 0 q 32)),(2,Bd A9 Pr.zero pres)] 6):=by
 refine Ab ok.k97 rfl fun x hx=>?_
 have hN:Af M 241 [AP g pc true xt,.ifc 422 (.ptr 0 [])] [(0,Dx .nils Pr.zero),(1,mach f g pc true xt),(2,stP (.sl 6 [] 0 q 32)),(3,Bd A9 Pr.zero pres)] 7 (Q3 (Ah (AP g pc true xt) .nili) [(0,Dx .nils Pr.zero),(1,mach f g pc true xt),(2,stP (.sl 6 [] 0 q 32)),(3,Bd A9 Pr.zero pres)] (7 + 1)) :=
  Ir ok.q (Ajb ok.q.okA ok.q.ok ok.p g pc true xt pres q) g pc xt ⟨f,[],Pr.zero⟩
 refine es 2000 ?_;(simp only [Zf,Zc,LZ,seval])
 have zz:=@mach.eq_1;refine Ia (BL ok.q.okA f g pc true xt) ?_
 (simp only [As,N3,LZ,seval])
 have zz:=Bc @mach.eq_1 @AP.eq_1;refine CV (BX ok.d f g pc true xt) ?_
 (simp only [BV,AP,seval])
 have zz:=Bc @mach.eq_1 @dg.eq_1;refine CV (Ca ok.q.okA f g pc true xt) ?_
 (simp only [BV,seval])
 have zz:=CC Qt @GC.eq_1 @Ce;refine Df [198,150,1,2,3,4,5] [198,150,1,2] (hN) ?_
 (simp only [Dq,Qt,As,seval])
 have zz:=Bc Lca @dg.eq_1;exact Bz hx [0,1,2,3,4,5] ⟨rfl,rfl,rfl⟩
theorem Pe (ok:OkOs M) (f g:Nat→BitVec 64) (pc xt:BitVec 64) (hpc:8192#64≤pc) (pres:List (Dg × Pr)) (q:Nat) :
 Af M 97 [.ptr 0 [],.ptr 1 []] [(0,mach f g pc false xt),(1,GC (.sl 5 [] 0 q 32)),(2,Bd A9 Pr.zero pres)] 6
  (Q3 (GX ⟨f,g,pc,false,xt⟩ none [] Pr.zero) [(0,mach f g pc false xt),(1,GC (.sl 5 [] 0 q 32)),(2,Bd A9 Pr.zero pres)] 6):=by
 refine Ab ok.k97 rfl fun x hx=>?_
 have hN:Af M 241 [AP g pc false xt,.ifc 422 (.ptr 0 [])] [(0,Dx .nils Pr.zero),(1,mach f g pc false xt),(2,stP (.sl 6 [] 0 q 32)),(3,Bd A9 Pr.zero pres)] 7 (Q3 (Ah (AP g pc true A8) .nili) [(0,Dx .nils Pr.zero),(1,mach f g pc false xt),(2,stP (.sl 6 [] 0 q 32)),(3,Bd A9 Pr.zero pres)] (7 + 1)) :=
  GW ok.q (Ajb ok.q.okA ok.q.ok ok.p g pc false xt pres q) g pc xt ⟨f,[],Pr.zero⟩ hpc
 refine es 2000 ?_;(simp only [Zf,Zc,LZ,seval])
 have zz:=@mach.eq_1;refine Ia (BL ok.q.okA f g pc false xt) ?_
 (simp only [As,N3,LZ,seval])
 have zz:=Bc @mach.eq_1 @AP.eq_1;refine CV (BX ok.d f g pc false xt) ?_
 (simp only [BV,AP,seval])
 have zz:=Bc @mach.eq_1 @dg.eq_1;refine CV (Ca ok.q.okA f g pc false xt) ?_
 (simp only [BV,seval])
 have zz:=CC Qt @GC.eq_1 @Ce;refine Df [198,150,1,2,3,4,5] [198,150,1,2] (hN) ?_
 (simp only [Dq,Qt,As,seval])
 have zz:=Bc Lca @dg.eq_1;exact Bz hx [0,1,2,3,4,5] ⟨rfl,rfl,rfl⟩
theorem TE (ok:OkOs M) (f g:Nat→BitVec 64) (pc xt:BitVec 64) (hpc:¬ 8192#64≤pc) (pres:List (Dg × Pr)) (q:Nat) (h1:Hd) (e:Option Int) (s1:Ps) (hq:nx (Hk pres) ⟨g,pc,false,xt⟩ ⟨f,[],Pr.zero⟩=(h1,e,s1)) :
 Af M 97 [.ptr 0 [],.ptr 1 []] [(0,mach f g pc false xt),(1,GC (.sl 5 [] 0 q 32)),(2,Bd A9 Pr.zero pres)] 6
  (Q3 (GX ⟨f,g,pc,false,xt⟩ e s1.l s1.pre) [(0,mach f g pc false xt),(1,GC (.sl 5 [] 0 q 32)),(2,Bd A9 Pr.zero pres)] 6):=by
 refine Ab ok.k97 rfl fun x hx=>?_
 obtain ⟨g1,pc1,hl1,xt1⟩:=h1
 obtain ⟨f1,l1,pre1⟩:=s1
 have hN:Af M 241 [AP g pc false xt,.ifc 422 (.ptr 0 [])] [(0,Dx .nils Pr.zero),(1,mach f g pc false xt),(2,stP (.sl 6 [] 0 q 32)),(3,Bd A9 Pr.zero pres)] 7 (Q3 (Ah (AP g1 pc1 hl1 xt1) (Cr e)) [(0,Dx (.sl 7 [] 0 l1.length 2) pre1),(1,mach f1 g pc false xt),(2,stP (.sl 6 [] 0 q 32)),(3,Bd A9 Pr.zero pres),(7,.ar 2 l1.length (Dp l1))] (7 + 1)) :=
  I6 ok.q (Ajb ok.q.okA ok.q.ok ok.p g pc false xt pres q) ⟨g,pc,false,xt⟩ ⟨f,[],Pr.zero⟩ rfl rfl hpc _ hq
 refine es 2000 ?_;(simp only [Zf,Zc,LZ,seval])
 have zz:=@mach.eq_1;refine Ia (BL ok.q.okA f g pc false xt) ?_
 (simp only [As,N3,LZ,seval])
 have zz:=Bc @mach.eq_1 @AP.eq_1;refine CV (BX ok.d f g pc false xt) ?_
 (simp only [BV,AP,seval])
 have zz:=Bc @mach.eq_1 @dg.eq_1;refine CV (Ca ok.q.okA f g pc false xt) ?_
 (simp only [BV,seval])
 cases e with
 | none =>
   have zz:=CC Qt @GC.eq_1 @Ce;refine Df [198,150,1,2,3,4,5] [198,150,1,2] (hN) ?_
   (simp only [Ld,Qt,Bm,As,seval])
   refine Ap.mk hx [0,1,2,3,4,5] [534] (GX ⟨f,g,pc,false,xt⟩ none l1 pre1) [(0,mach f g pc false xt),(1,GC (.sl 5 [] 0 q 32)),(2,Bd A9 Pr.zero pres)] 6 Aj (by (simp only [LV,BA,seval])) ?_ ?_ ⟨rfl,rfl,rfl⟩
   ·simp only [LV,Q4,Dq,dg,Cm,seval]
    refine ⟨by rfl,fun i hi=>?_⟩
    try rw [Nat.zero_add]
    exact J7 _ _ _ _
   ·simp only [GC,Cm,seval]
 | some n =>
   have zz:=CC Qt @GC.eq_1 @Ce;refine Df [198,150,1,2,3,4,5] [198,150,1,2] (hN) ?_
   (simp only [Ld,Qt,AE,As,N3,seval])
   have zz:=Bc Lca Lbc;exact Bz hx [0,1,2,3,4,5] ⟨rfl,rfl,rfl⟩
def Adc (m:Mc) (q:Hd × Option Int × Ps):Mc:=match q.2.1 with
 | none=>⟨q.2.2.f,q.1.g,q.1.pc,q.1.hl,q.1.xt⟩
 | some _=>⟨m.f,m.g,m.pc,true,Ky⟩
def Du (pres:List (Dg × Pr)) (m:Mc):Mc :=
 if m.hl=true then m else if 8192#64≤m.pc then ⟨m.f,m.g,m.pc,true,A8⟩
 else Adc m (nx (Hk pres) m.h ⟨m.f,[],Pr.zero⟩)
theorem JO (pres:List (Dg × Pr)) (f g:Nat→BitVec 64) (pc xt:BitVec 64) (hpc:¬ 8192#64≤pc) :
 Du pres ⟨f,g,pc,false,xt⟩=Adc ⟨f,g,pc,false,xt⟩ (MT (Hk pres) ⟨g,pc,false,xt⟩ (f pc.toNat) ⟨f,[AY f pc],Pr.zero⟩):=by
 rw [Du,if_neg B1,if_neg hpc]
 rfl
theorem Jk {M:Seat} (ok:OkV M) (okP:OkP M) (f g:Nat→BitVec 64) (pc xt:BitVec 64) (hpc:¬ 8192#64≤pc) (w:BitVec 64) (hw:f pc.toNat=w) (op:Nat) (h1:1≤op) (h25:op≤25) (hop:BS w=op) (h2:w >>> 32 &&& 255#64=0#64) :
 Af M 70 [.ptr 0 [],.ptr 1 []] [(0,mach f g pc false xt)] 2 (Q3 .nili [(0,mach f (Ig g (pF w 52) (apW op (g (pF w 48)) (g (pF w 44)) (g (pF w 40)))) (pc + 1#64) false xt)] 2):=by
 have hv:=GJ okP op h1 h25 (g (pF w 48)) (g (pF w 44)) (g (pF w 40))
 refine Ab ok.k70 rfl fun x hx=>?_
 have hp:pc.toNat < 8192:=Gy
 have a1:=Ao w 52
 have a2:=Ao w 48
 have a3:=Ao w 44
 have a4:=Ao w 40
 have d1:((op:Int)=0)=False:=eq_false Aa
 have d2:((op:Int) < 26)=True:=eq_true Aa
 refine es 2000 ?_;(simp only [Lcb,hpc,hw,seval])
 repeat refine sd ?_
 have zz:=@Bn.eq_1;refine Ng (A6 ok w Aa h2) ?_
 (simp only [He,hop,d1,d2,seval])
 repeat refine sd ?_
 refine BC (hv) ?_
 (simp only [BV,seval])
 repeat refine sd ?_
 have zz:=Bc @mach.eq_1 Q5;exact Bz hx [0,1] ⟨rfl,rfl,rfl⟩
theorem Aoq (op:Nat) (f g:Nat→BitVec 64) (pc xt:BitVec 64) (d a:Nat) (to:BitVec 64):Qu op f g pc xt d a to=(⟨f,(Lu op ⟨g,pc,false,xt⟩ d a to).g,(Lu op ⟨g,pc,false,xt⟩ d a to).pc,(Lu op ⟨g,pc,false,xt⟩ d a to).hl,(Lu op ⟨g,pc,false,xt⟩ d a to).xt⟩:Mc).v:=by
 unfold Qu Lu
 repeat' split
 all_goals rfl
theorem Ac1 {M:Seat} (ok:OkO M) (okP:OkP M) (pres:List (Dg × Pr)) (m:Mc) (h:¬ Pc m):Iq M m (Du pres m):=by
 obtain ⟨f,g,pc,hl,xt⟩:=m
 cases hl with
 | true =>
   rw [Du,if_pos rfl]
   exact DK ok.toOkV f g pc xt
 | false =>
   by_cases hpc:8192#64≤pc
   ·rw [Du,if_neg B1,if_pos hpc]
    exact HS ok.toOkV f g pc xt hpc
   rw [JO pres f g pc xt hpc]
   have key:∀ q:Hd × Option Int × Ps,MT (Hk pres) ⟨g,pc,false,xt⟩ (f pc.toNat) ⟨f,[AY f pc],Pr.zero⟩=q→Af M 70 [.ptr 0 [],.ptr 1 []] [(0,mach f g pc false xt)] 2 (Q3 .nili [(0,(Adc ⟨f,g,pc,false,xt⟩ q).v)] 2) →
    Iq M ⟨f,g,pc,false,xt⟩ (Adc ⟨f,g,pc,false,xt⟩ (MT (Hk pres) ⟨g,pc,false,xt⟩ (f pc.toNat) ⟨f,[AY f pc],Pr.zero⟩)):=fun q hq hr=>by rw [hq];exact hr
   have hask:Pc ⟨f,g,pc,false,xt⟩=Pc ⟨f,g,pc,false,xt⟩:=rfl
   unfold Pc at h
   dsimp only at h
   by_cases q0:isI (f pc.toNat)=false
   ·refine key _ (by rw [MT,if_pos q0]) ?_
    exact HF ok.toOkV f g pc xt hpc _ rfl (fun h=>by rw [(Gb _).2 h] at q0;cases q0)
   obtain ⟨h35,h2⟩:=(Gb _).1 (by simpa using q0)
   by_cases q1:BS (f pc.toNat)=0
   ·refine key _ (by rw [MT,if_neg q0,if_pos q1]) ?_
    exact EA ok.toOkV f g pc xt hpc _ rfl q1 h2
   by_cases q2:BS (f pc.toNat) < 26
   ·refine key _ (by rw [MT,if_neg q0,if_neg q1,if_pos q2]) ?_
    exact Jk ok.toOkV okP f g pc xt hpc _ rfl (BS (f pc.toNat)) Aa Aa rfl h2
   by_cases q3:BS (f pc.toNat)=26
   ·refine key _ (by rw [MT,if_neg q0,if_neg q1,if_neg q2,if_pos q3]) ?_
    exact IG ok.toOkV f g pc xt hpc _ rfl q3 h2
   by_cases q4:BS (f pc.toNat)=27 ∨ BS (f pc.toNat)=28
   ·by_cases hwh:8192#64≤g (pF (f pc.toNat) 48) + BitVec.ofInt 64 (pN (f pc.toNat))
    ·refine key _ (by rw [MT,if_neg q0,if_neg q1,if_neg q2,if_neg q3,if_pos q4,if_pos hwh]) ?_
     rcases q4 with q4 | q4
     ·exact Ei ok.toOkV f g pc xt hpc _ rfl q4 h2 _ rfl hwh
     ·exact DP ok.toOkV f g pc xt hpc _ rfl q4 h2 _ rfl hwh
    ·by_cases q5:BS (f pc.toNat)=27
     ·refine key _ (by rw [MT,if_neg q0,if_neg q1,if_neg q2,if_neg q3,if_pos q4,if_neg hwh,if_pos q5]) ?_
      exact G9 ok.toOkV f g pc xt hpc _ rfl q5 h2 _ rfl hwh
     ·refine key _ (by rw [MT,if_neg q0,if_neg q1,if_neg q2,if_neg q3,if_pos q4,if_neg hwh,if_neg q5]) ?_
      exact FI ok.toOkV f g pc xt hpc _ rfl (q4.resolve_left q5) h2 _ rfl hwh
   by_cases q7:BS (f pc.toNat) < 34
   ·refine key _ (by rw [MT,if_neg q0,if_neg q1,if_neg q2,if_neg q3,if_neg q4,if_pos q7]) ?_
    have hJ:=Ct ok.toOkV (BS (f pc.toNat)) Aa f g pc xt hpc _ rfl rfl h2
    rw [Aoq] at hJ
    exact hJ
   by_cases q8:BS (f pc.toNat)=34
   ·have hw:(wi (g (pF (f pc.toNat) 48)) 8#64 && wi (g (pF (f pc.toNat) 44)) 4#64)=false:=by
     cases hb:(wi (g (pF (f pc.toNat) 48)) 8#64 && wi (g (pF (f pc.toNat) 44)) 4#64) with
     | false=>rfl
     | true=>exact absurd ⟨rfl,hpc,h2,.inl ⟨q8,hb⟩⟩ h
    refine key ((⟨g,pc,false,xt⟩:Hd).stop A8,none,⟨f,[AY f pc],Pr.zero⟩) ?_ (Fy ok f g pc xt hpc _ rfl q8 h2 hw)
    rw [MT,if_neg q0,if_neg q1,if_neg q2,if_neg q3,if_neg q4,if_neg q7,Re,if_pos]
    rw [q8];exact hw
   ·have q8:BS (f pc.toNat)=35:=Aa
    have hw:(wi (g (pF (f pc.toNat) 48)) 4#64 && wi (g (pF (f pc.toNat) 44)) 8#64)=false:=by
     cases hb:(wi (g (pF (f pc.toNat) 48)) 4#64 && wi (g (pF (f pc.toNat) 44)) 8#64) with
     | false=>rfl
     | true=>exact absurd ⟨rfl,hpc,h2,.inr ⟨q8,hb⟩⟩ h
    refine key ((⟨g,pc,false,xt⟩:Hd).stop A8,none,⟨f,[AY f pc],Pr.zero⟩) ?_ (F0 ok f g pc xt hpc _ rfl q8 h2 hw)
    rw [MT,if_neg q0,if_neg q1,if_neg q2,if_neg q3,if_neg q4,if_neg q7,Re,if_pos]
    rw [q8];exact hw
theorem TG {p q:Nat→BitVec 8} (h:∀ j,j < 64→p j=q j):Pr.mk' p=Pr.mk' q:=by
 unfold Pr.mk'
 congr 1
 exact List.map_congr_left fun j hj=>h j (List.mem_range.1 hj)
theorem UR {p q:Nat→BitVec 8} (h:∀ j,j < 32→p j=q j):Dg.mk' p=Dg.mk' q:=by
 unfold Dg.mk'
 congr 1
 exact List.map_congr_left fun j hj=>h j (List.mem_range.1 hj)
theorem SF (f:Nat→BitVec 64) (a:BitVec 64) (n j:Nat) (h:a.toNat + n≤8192) (hj:j < 8 * n):DB (YW f a n 0) j=Bb (fun j=>f (a.toNat + j)) j:=by
 rw [DB,Bb,Bb,W0 f a n 0 (j / 8) Aa Aa,Nat.add_zero]
theorem RO (pres:List (Dg × Pr)) (f g:Nat→BitVec 64) (pc xt:BitVec 64) (hpc:¬ 8192#64≤pc) (w:BitVec 64) (hw:f pc.toNat=w) (hop:BS w=34) (h2:w >>> 32 &&& 255#64=0#64) (h3:wi (g (pF w 48)) 8#64=true) (h4:wi (g (pF w 44)) 4#64=true) :
 Du pres ⟨f,g,pc,false,xt⟩=⟨fun j=>if (g (pF w 44)).toNat≤j∧j < (g (pF w 44)).toNat + 4 then II (fun i=>(Cf (Pr.mk' (Bb fun j=>f ((g (pF w 48)).toNat + j))).at).at (8 * (j - (g (pF w 44)).toNat) + i)) 8 else f j,g,pc + 1#64,false,xt⟩:=by
 have ha:(g (pF w 48)).toNat + 8≤8192:=DO h3
 have hb:(g (pF w 44)).toNat + 4≤8192:=DO h4
 have q0:¬ isI w=false:=by rw [(Gb w).2 ⟨by omega,h2⟩];simp
 rw [JO pres f g pc xt hpc,hw,MT,if_neg q0,if_neg Aa,if_neg Aa,if_neg Aa,if_neg Aa,if_neg Aa,hop]
 dsimp only
 rw [Re,if_neg (by simp [h3,h4])]
 rw [show (if (34:Nat)=35 then 4 else 8)=8 from rfl,RU]
 dsimp only
 rw [if_pos rfl,Lx,Rv]
 have hP:Pr.mk' (DB (YW f (g (pF w 48)) 8 0))=Pr.mk' (Bb fun j=>f ((g (pF w 48)).toNat + j)):=TG (fun j hj=>SF f _ 8 j ha Aa)
 rw [List.nil_append,hP]
 show (⟨_,_,_,_,_⟩:Mc)=_
 congr 1
 funext j
 dsimp only
 rw [Sk _ _ 4 0 f j Aa]
 simp only [Nat.add_zero,YY]
theorem TT (pres:List (Dg × Pr)) (f g:Nat→BitVec 64) (pc xt:BitVec 64) (hpc:¬ 8192#64≤pc) (w:BitVec 64) (hw:f pc.toNat=w) (hop:BS w=35) (h2:w >>> 32 &&& 255#64=0#64) (h3:wi (g (pF w 48)) 4#64=true) (h4:wi (g (pF w 44)) 8#64=true) :
 pQ f g pc xt (g (pF w 44)) (Dt (Dg.mk' (Bb fun j=>f ((g (pF w 48)).toNat + j))) pres)=(Du pres ⟨f,g,pc,false,xt⟩).v:=by
 have ha:(g (pF w 48)).toNat + 4≤8192:=DO h3
 have hb:(g (pF w 44)).toNat + 8≤8192:=DO h4
 have q0:¬ isI w=false:=by rw [(Gb w).2 ⟨by omega,h2⟩];simp
 rw [JO pres f g pc xt hpc,hw,MT,if_neg q0,if_neg Aa,if_neg Aa,if_neg Aa,if_neg Aa,if_neg Aa,hop]
 dsimp only
 rw [Re,if_neg (by simp [h3,h4])]
 rw [show (if (35:Nat)=35 then 4 else 8)=4 from rfl,RU]
 dsimp only
 have hP:Dg.mk' (DB (YW f (g (pF w 48)) 4 0))=Dg.mk' (Bb fun j=>f ((g (pF w 48)).toNat + j)):=UR (fun j hj=>SF f _ 4 j ha Aa)
 rw [if_neg Aa,Ab4,show (Hk pres).pi=Ql pres from rfl,Ql,List.nil_append,hP]
 cases Dt (Dg.mk' (Bb fun j=>f ((g (pF w 48)).toNat + j))) pres with
 | none=>rfl
 | some p =>
   dsimp only
   rw [Lx,Rv]
   show mach _ _ _ _ _=mach _ _ _ _ _
   congr 1
   funext j
   refine Eq.trans ?_ (Sk _ _ 8 0 f j Aa).symm
   simp only [Nat.add_zero,YY]
theorem IJ {α:Type} (k k':Dg) (hne:¬ k'=k) (x:α):∀ l:List (Dg × α),Dt k' (CW k x l)=Dt k' l
 | []=>by simp [CW,Dt,hne]
 | (h, y) :: r => by
   by_cases e:k=h
   ·subst e;simp [CW,Dt,hne]
   ·have:=IJ k k' hne x r
    simp only [CW,e,if_false,Dt,this]
theorem GY (w:WS) (p:Pr) (h:Cb w.pres):Cb (w.add p).pres:=by
 intro k q hk
 rw [WS.add,OM] at hk
 dsimp only at hk
 by_cases e:k=Cf p.at
 ·subst e
  rw [PQ] at hk
  cases hk;rfl
 ·rw [IJ _ _ e] at hk
  exact h k q hk
end Mv
