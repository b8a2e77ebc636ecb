/- A part. -/
import Derived.Test.YtlfkjfonpacelaaGreatDoorFQ
set_option linter.all false
set_option maxRecDepth 20000
set_option maxHeartbeats 4000000
namespace Mv
open Go
variable {M:Seat}
theorem RI (ok:OkOs M) (f g:Nat→BitVec 64) (pc xt:BitVec 64) (pres:List (Dg × Pr)) (sl:List (Dg × Bool)) (nq:Nat) (qq:Nat→Dg) :
 Af M 97 [.imm (mach f g pc true xt),.imm (CM pres 0 sl nq qq)] [] 1
  (Q3 (GX ⟨f,g,pc,true,xt⟩ none [] Pr.zero) [] 1):=by
 refine Ab ok.k97 rfl fun x hx=>?_
 have hN:Af M 241 [AP g pc true xt,.ifc 422 (.ptr 0 [])] [(0,F9 pres sl nq qq .nils Pr.zero),(1,mach f g pc true xt)] 3 (Q3 (Ah (AP g pc true xt) .nili) [(0,F9 pres sl nq qq .nils Pr.zero),(1,mach f g pc true xt)] (3 + 1)) :=
  Ir ok.q (Af8 ok.q.okA ok.q.ok ok.p g pc true xt pres sl nq qq) g pc xt ⟨f,[],Pr.zero⟩
 refine es 2000 ?_;(simp only [Zf,Zc,LZ,seval])
 have zz:=@mach.eq_1;refine Ia (BL ok.q.okA f g pc true xt) ?_
 (simp only [As,N3,LZ,seval])
 have zz:=Bc @mach.eq_1 @AP.eq_1;refine CV (BX ok.d f g pc true xt) ?_
 (simp only [BV,AP,seval])
 have zz:=Bc @mach.eq_1 @dg.eq_1;refine CV (Ca ok.q.okA f g pc true xt) ?_
 (simp only [BV,seval])
 have zz:=YF @F9.eq_1 @CM.eq_1 @AD @AZ @AP.eq_1 @Ce;refine Df [193,145,0] [193,145] (hN) ?_
 (simp only [Dq,F9,CM,Ek,Fc,AP,As,seval])
 have zz:=N8 Q4 YZ @dg.eq_1 @List.length_nil.{0} @LM;exact Bz hx [0] ⟨rfl,rfl,rfl⟩
theorem OB (ok:OkOs M) (f g:Nat→BitVec 64) (pc xt:BitVec 64) (hpc:8192#64≤pc) (pres:List (Dg × Pr)) (sl:List (Dg × Bool)) (nq:Nat) (qq:Nat→Dg) :
 Af M 97 [.imm (mach f g pc false xt),.imm (CM pres 0 sl nq qq)] [] 1
  (Q3 (GX ⟨f,g,pc,false,xt⟩ none [] Pr.zero) [] 1):=by
 refine Ab ok.k97 rfl fun x hx=>?_
 have hN:Af M 241 [AP g pc false xt,.ifc 422 (.ptr 0 [])] [(0,F9 pres sl nq qq .nils Pr.zero),(1,mach f g pc false xt)] 3 (Q3 (Ah (AP g pc true A8) .nili) [(0,F9 pres sl nq qq .nils Pr.zero),(1,mach f g pc false xt)] (3 + 1)) :=
  GW ok.q (Af8 ok.q.okA ok.q.ok ok.p g pc false xt pres sl nq qq) g pc xt ⟨f,[],Pr.zero⟩ hpc
 refine es 2000 ?_;(simp only [Zf,Zc,LZ,seval])
 have zz:=@mach.eq_1;refine Ia (BL ok.q.okA f g pc false xt) ?_
 (simp only [As,N3,LZ,seval])
 have zz:=Bc @mach.eq_1 @AP.eq_1;refine CV (BX ok.d f g pc false xt) ?_
 (simp only [BV,AP,seval])
 have zz:=Bc @mach.eq_1 @dg.eq_1;refine CV (Ca ok.q.okA f g pc false xt) ?_
 (simp only [BV,seval])
 have zz:=YF @F9.eq_1 @CM.eq_1 @AD @AZ @AP.eq_1 @Ce;refine Df [193,145,0] [193,145] (hN) ?_
 (simp only [Dq,F9,CM,Ek,Fc,AP,As,seval])
 have zz:=N8 Q4 YZ @dg.eq_1 @List.length_nil.{0} @LM;exact Bz hx [0] ⟨rfl,rfl,rfl⟩
theorem Vt (ok:OkOs M) (f g:Nat→BitVec 64) (pc xt:BitVec 64) (hpc:¬ 8192#64≤pc) (pres:List (Dg × Pr)) (sl:List (Dg × Bool)) (nq:Nat) (qq:Nat→Dg) (h1:Hd) (e:Option Int) (s1:Ps) (hq:nx (Hk pres) ⟨g,pc,false,xt⟩ ⟨f,[],Pr.zero⟩=(h1,e,s1)) :
 Af M 97 [.imm (mach f g pc false xt),.imm (CM pres 0 sl nq qq)] [] 1
  (Q3 (GX ⟨f,g,pc,false,xt⟩ e s1.l s1.pre) [] 1):=by
 refine Ab ok.k97 rfl fun x hx=>?_
 obtain ⟨g1,pc1,hl1,xt1⟩:=h1
 obtain ⟨f1,l1,pre1⟩:=s1
 have hN:Af M 241 [AP g pc false xt,.ifc 422 (.ptr 0 [])] [(0,F9 pres sl nq qq .nils Pr.zero),(1,mach f g pc false xt)] 3 (Q3 (Ah (AP g1 pc1 hl1 xt1) (Cr e)) [(0,F9 pres sl nq qq (.sl 3 [] 0 l1.length 2) pre1),(1,mach f1 g pc false xt),(3,.ar 2 l1.length (Dp l1))] (3 + 1)) :=
  I6 ok.q (Af8 ok.q.okA ok.q.ok ok.p g pc false xt pres sl nq qq) ⟨g,pc,false,xt⟩ ⟨f,[],Pr.zero⟩ rfl rfl hpc _ hq
 refine es 2000 ?_;(simp only [Zf,Zc,LZ,seval])
 have zz:=@mach.eq_1;refine Ia (BL ok.q.okA f g pc false xt) ?_
 (simp only [As,N3,LZ,seval])
 have zz:=Bc @mach.eq_1 @AP.eq_1;refine CV (BX ok.d f g pc false xt) ?_
 (simp only [BV,AP,seval])
 have zz:=Bc @mach.eq_1 @dg.eq_1;refine CV (Ca ok.q.okA f g pc false xt) ?_
 (simp only [BV,seval])
 cases e with
 | none =>
   have zz:=YF @F9.eq_1 @CM.eq_1 @AD @AZ @AP.eq_1 @Ce;refine Df [193,145,0] [193,145] (hN) ?_
   (simp only [Ld,F9,CM,Ek,Fc,AP,Bm,As,seval])
   refine Ap.mk hx [0] [529] (GX ⟨f,g,pc,false,xt⟩ none l1 pre1) [] 1 Aj (by (simp only [LV,BA,seval])) ?_ ?_ ⟨rfl,rfl,rfl⟩
   ·simp only [LV,Q4,Dq,dg,Cm,seval]
    refine ⟨by rfl,fun i hi=>?_⟩
    try rw [Nat.zero_add]
    exact J7 _ _ _ _
   ·trivial
 | some en =>
   have zz:=YF @F9.eq_1 @CM.eq_1 @AD @AZ @AP.eq_1 @Ce;refine Df [193,145,0] [193,145] (hN) ?_
   (simp only [Ld,F9,CM,Ek,Fc,AP,AE,As,N3,seval])
   have zz:=N8 Q4 YZ Lbc @List.length_nil.{0} @LM;exact Bz hx [0] ⟨rfl,rfl,rfl⟩
theorem L8 (ok:OkOs M) (m:Mc) (pres:List (Dg × Pr)) (sl:List (Dg × Bool)) (nq:Nat) (qq:Nat→Dg) :
 Af M 97 [.imm (mach m.f m.g m.pc m.hl m.xt),.imm (CM pres 0 sl nq qq)] [] 1
  (Q3 (GX m (CE pres m).1 (CE pres m).2.1 (CE pres m).2.2) [] 1):=by
 obtain ⟨f,g,pc,hl,xt⟩:=m
 unfold CE
 cases hl with
 | true=>rw [if_pos rfl];exact RI ok f g pc xt pres sl nq qq
 | false =>
   rw [if_neg B1]
   by_cases hpc:8192#64≤pc
   ·rw [if_pos hpc];exact OB ok f g pc xt hpc pres sl nq qq
   ·rw [if_neg hpc]
    generalize hq:nx (Hk pres) (⟨f,g,pc,false,xt⟩:Mc).h ⟨f,[],Pr.zero⟩=r
    obtain ⟨h1,e,s1⟩:=r
    exact Vt ok f g pc xt hpc pres sl nq qq h1 e s1 hq
structure Pt where
 a:BitVec 64
 m:Mc
 p:List (Dg × Pr)
 sl:List (Dg × Bool)
 n:Nat
 q:Nat→Dg
def Cu (K:Nat) (P:Pt):V:=.st 3 (.fcons 0 (W P.a) (.fcons 1 (.imm (mach P.m.f P.m.g P.m.pc P.m.hl P.m.xt)) (.fcons 2 (.imm (CM P.p K P.sl P.n P.q)) .fnil)))
theorem SE (K K':Nat) (m:List Nat) (h:m[K]?=some K') (P:Pt):(Cu K P).ren m=Cu K' P:=by
 simp only [Cu,CM,V.ren,h,Ek,Fc,As,W,dg,B]
theorem DT (H:Hp) (m z:List Nat) (K K':Nat) (h:m[K]?=some K') (P:Pt):Ar H m z (Cu K P) (Cu K' P):=by
 simp only [Cu,CM,Ar,h,AD,AZ,AA,W,and_self,Gw]
 exact fun i _=>(AW _ _ _ _ _).mpr rfl
theorem L9 (K:Nat) (P:Pt):(Cu K P).solid=true:=rfl
theorem O2 (K:Nat) (P:Pt):(Cu K P).size=3:=rfl
theorem SR (K:Nat) (P:Pt):(Cu K P).isAgg=true:=rfl
def bi (ps:Nat→Pt) (s:BitVec 64):Nat→Nat
 | 0=>0
 | i + 1=>if (ps i).a≤s∧(ps (bi ps s i)).a < (ps i).a then i else bi ps s i
theorem Adn (ps:Nat→Pt) (s:BitVec 64) (n:Nat) (hn:0 < n):∀ i,i≤n→bi ps s i < n
 | 0,_=>hn
 | i + 1, h => by
   rw [bi]
   split
   ·omega
   ·exact Adn ps s n hn i Aa
theorem WV (ps:Nat→Pt) (s:BitVec 64) (h0:(ps 0).a≤s):∀ i,(ps (bi ps s i)).a≤s
 | 0=>h0
 | i + 1 => by
   rw [bi]
   split
   ·rename_i h;exact h.1
   ·exact WV ps s h0 i
def tH (n:Nat) (ps:Nat→Pt) (d:Int) (w:WS):Hp:=[(0,Ax (.sl 2 [] 0 n 3) d (.map 3) (.map 1)),(2,.ar 3 n fun j=>Cu 4 (ps j)),(4,Aw 5 w.a w.b w.met),(5,Bd A9 Pr.zero w.ever)]
structure OkRc (M:Seat):Prop where
 o:OkHo M
 t:OkT M
 p:OkPr M
 k275:Av M 275 PF=true
theorem Jb {M:Seat} (ok:OkRc M) (n:Nat) (hn:0 < n) (hn2:n < 32) (ps:Nat→Pt) (d:Int) (w:WS) (s:BitVec 64) (h:(ps (bi ps s n)).a=s ∨ (ps (bi ps s n)).m.hl=true) :
 Af M 275 [.ptr 0 [],W s] (tH n ps d w) 6 (Q3 (Cu 4 (ps (bi ps s n))) (tH n ps d w) 6):=by
 refine Ab ok.k275 rfl fun x hx=>?_
 unfold tH
 refine es 2000 ?_;(simp only [PF,RM,Ax,Aw,L9,O2,SR,LZ,seval])
 refine ⟨by omega,by omega,?_⟩
 refine An (σ:=Nat) (fun i=>i≤n) (fun i=>fr 95 [(0,.ptr 0 []),(1,W s),(4,.ptr 6 []),(5,.ptr 7 []),(20,.sl 2 [] 0 n 3),(21,.int .i64 n),(22,.int .i64 i)])
  (fun i=>[(0,Ax (.sl 2 [] 0 n 3) d (.map 3) (.map 1)),(2,.ar 3 n fun j=>Cu 4 (ps j)),(4,Aw 5 w.a w.b w.met),(5,Bd A9 Pr.zero w.ever),(6,.st 3 (.fcons 0 (W 0#64) (.fcons 1 .nilp (.fcons 2 .nilp .fnil)))),(7,Cu 4 (ps (bi ps s i)))]) (fun _=>8) (fun i=>n - i) 0 Aa ?_ ?_
 ·refine Ak.fr [0,1,2,3,4,5,6,118] [] hx AQ Aj ?_ ?_
  ·simp only [Int.natCast_zero,LY,seval]
  ·simp only [Ax,Aw,Cm,bi,seval]
   exact ⟨fun j _=>DT _ _ _ 4 4 rfl _,DT _ _ _ 4 4 rfl _⟩
 ·intro i hi
  refine es 2000 ?_
  by_cases hin:i=n
  ·subst hin
   have d0:((i:Int) < (i:Int))=False:=eq_false Aa
   generalize bi ps s i=b at *
   rcases h with h | h
   ·(simp only [d0,h,Ax,Aw,Cu,CM,AN,Bg,Bu,LZ,seval])
    have zz:=Vy @Ax.eq_1 @Aw.eq_1 @Cu.eq_1 @CM.eq_1 @Ce @AD @AZ @dg.eq_1;exact Bz hx [0,1,2,3,4,5] ⟨rfl,rfl,rfl⟩
   ·by_cases h2:(ps b).a=s
    ·(simp only [d0,h2,Ax,Aw,Cu,CM,AN,Bg,Bu,LZ,seval])
     have zz:=Vy @Ax.eq_1 @Aw.eq_1 @Cu.eq_1 @CM.eq_1 @Ce @AD @AZ @dg.eq_1;exact Bz hx [0,1,2,3,4,5] ⟨rfl,rfl,rfl⟩
    ·(simp only [d0,h2,h,C7,Ax,Aw,Cu,CM,AN,Bg,Bu,seval])
     have zz:=Aje @mach.eq_1 h @Ax.eq_1 @Aw.eq_1 @Cu.eq_1 @CM.eq_1 @Ce @AD @AZ @dg.eq_1;exact Bz hx [0,1,2,3,4,5] ⟨rfl,rfl,rfl⟩
  ·have d0:((i:Int) < (n:Int))=True:=eq_true Aa
   have d1:(0≤(i:Int))=True:=eq_true Aa
   have w1:IntKind.i64.wrap ((i:Int) + 1)=((i + 1:Nat):Int):=Bw
   by_cases c1:(ps i).a≤s
   ·by_cases c2:(ps (bi ps s i)).a < (ps i).a
    ·have e3:bi ps s (i + 1)=i:=by rw [bi,if_pos ⟨c1,c2⟩]
     (simp only [d0,d1,w1,c1,c2,Ax,Aw,Cu,CM,AN,Bg,Bu,LZ,seval])
     refine ⟨by omega,i + 1,by omega,by omega,?_⟩
     refine Ak.fr [0,1,2,3,4,5,6,7] [] hx AQ Aj ?_ ?_
     ·simp only [LY,seval]
     ·simp only [Ax,Aw,Cu,CM,e3,Cm,AD,AZ,dg,seval]
    ·have e3:bi ps s (i + 1)=bi ps s i:=by rw [bi,if_neg (fun h=>c2 h.2)]
     (simp only [d0,d1,w1,c1,c2,Ax,Aw,Cu,CM,AN,Bg,Bu,LZ,seval])
     refine ⟨by omega,i + 1,by omega,by omega,?_⟩
     refine Ak.fr [0,1,2,3,4,5,6,7] [] hx AQ Aj ?_ ?_
     ·simp only [LY,seval]
     ·simp only [Ax,Aw,Cu,CM,e3,Cm,AD,AZ,dg,seval]
   ·have e3:bi ps s (i + 1)=bi ps s i:=by rw [bi,if_neg (fun h=>c1 h.1)]
    (simp only [d0,d1,w1,c1,Ax,Aw,Cu,CM,AN,Bg,Bu,LZ,seval])
    refine ⟨by omega,i + 1,by omega,by omega,?_⟩
    refine Ak.fr [0,1,2,3,4,5,6,7] [] hx AQ Aj ?_ ?_
    ·simp only [LY,seval]
    ·simp only [Ax,Aw,Cu,CM,e3,Cm,AD,AZ,dg,seval]
def U0 (n:Nat) (ps:Nat→Pt) (P:Pt) (d:Int) (w:WS):Hp:=[(0,Ax (.sl 6 [] 0 (n + 1) 3) d (.map 3) (.map 1)),(4,Aw 5 w.a w.b w.met),(5,Bd A9 Pr.zero w.ever),(6,.ar 3 (n + 1) fun j=>Cu 4 (if j < n then ps j else P))]
theorem Nr {H:Hp} {m z:List Nat} {K K' mi si pi qi:Nat} {P:Pt} {akx:V} (hK:m[K]?=some K') (h1:MG H z mi=true) (h2:hget H mi=mach P.m.f P.m.g P.m.pc P.m.hl P.m.xt) (h3:MG H z si=true)
 (h4:hget H si = .st 4 (.fcons 0 (.map pi) (.fcons 1 (.ptr K' []) (.fcons 2 (.map qi) (.fcons 3 akx .fnil))))) (h5:z.contains pi=true) (h6:Ac H pi=true) (h7:hget H pi=Bd A9 Pr.zero P.p) (h8:z.contains qi=true) (h9:Ac H qi=true) (h10:hget H qi=Bd V.bool false P.sl)
 (h11:Ar H m z (.lst 32 P.n fun i=>dg (P.q i)) akx):Ar H m z (Cu K P) (.st 3 (.fcons 0 (W P.a) (.fcons 1 (.ptr mi []) (.fcons 2 (.ptr si []) .fnil)))):=by
 simp only [Cu,Ar]
 refine ⟨by first | trivial | rfl,by first | trivial | rfl,by simp [W,Ar],by first | trivial | rfl,⟨h1,?_,?_⟩,by first | trivial | rfl,⟨h3,?_,?_⟩,by first | trivial | rfl⟩
 ·trivial
 ·rw [h2];exact AA _ _ _ _ _ _ _ _
 ·trivial
 ·rw [h4]
  show Ar H m z (CM P.p K P.sl P.n P.q) _
  simp only [CM,Ar]
  refine ⟨rfl,rfl,?_,rfl,⟨hK,rfl⟩,rfl,?_,rfl,h11,rfl⟩
  ·exact SJ H m z pi A9 (fun _=>(C3 _ _ _ _ _).mpr rfl) Pr.zero P.p h5 h6 h7
  ·exact SJ H m z qi V.bool (fun _=>rfl) false P.sl h8 h9 h10
theorem Uh {M:Seat} (ok:OkRc M) (n:Nat) (hn:0 < n) (hn2:n < 32) (ps:Nat→Pt) (d:Int) (w:WS) (s:BitVec 64) (h0:(ps 0).a≤s) (hs:s.toNat < 1073741824) (hne:¬ (ps (bi ps s n)).a=s) (hnl:(ps (bi ps s n)).m.hl=false) (hp:Cb (ps (bi ps s n)).p) :
 ∃ (P:Pt) (w':WS) (k:Nat),k≤(s - (ps (bi ps s n)).a).toNat∧P.a=(ps (bi ps s n)).a + BitVec.ofNat 64 k∧(P.m.hl=true ∨ k=(s - (ps (bi ps s n)).a).toNat)∧(P.m,P.p)=xs (ps (bi ps s n)).m (ps (bi ps s n)).p k∧Cb P.p ∧
  Af M 275 [.ptr 0 [],W s] (tH n ps d w) 6 (Q3 (Cu 4 P) (U0 n ps P d w') 7):=by
 have hle:=WV ps s h0 n
 have hT:(s - (ps (bi ps s n)).a).toInt=((s - (ps (bi ps s n)).a).toNat:Int):=by
  rw [BitVec.toInt_eq_toNat_of_lt]
  rw [BitVec.le_def] at hle
  rw [BitVec.toNat_sub_of_le (by rw [BitVec.le_def];exact hle)]
  omega
 have hN:(s - (ps (bi ps s n)).a).toNat < 549755813888:=by
  rw [BitVec.le_def] at hle
  rw [BitVec.toNat_sub_of_le (by rw [BitVec.le_def];exact hle)]
  omega
 obtain ⟨k,s',k1,k2,k3,k4,hR⟩:=Vj ok.t ⟨{ w with pres:=(ps (bi ps s n)).p },[],0,fun _=>Dg.zero,(ps (bi ps s n)).m⟩ rfl hp (s - (ps (bi ps s n)).a).toNat hN
 refine ⟨⟨(ps (bi ps s n)).a + BitVec.ofNat 64 k,s'.m,s'.w.pres,s'.l,s'.n,s'.q⟩,s'.w,k,k1,rfl,k2,k3,k4,?_⟩
 have hC:=BL ok.o.p.m (ps (bi ps s n)).m.f (ps (bi ps s n)).m.g (ps (bi ps s n)).m.pc (ps (bi ps s n)).m.hl (ps (bi ps s n)).m.xt
 have hS:=IQ ok.p (ps (bi ps s n)).p (ps (bi ps s n)).sl (ps (bi ps s n)).n (ps (bi ps s n)).q
 have hv:∀ m:Mc,m.v=mach m.f m.g m.pc m.hl m.xt:=fun _=>rfl
 generalize hσ:s' = σ at *
 have ek:BitVec.ofInt 64 (k:Int)=BitVec.ofNat 64 k:=BitVec.ofInt_natCast _ _
 refine Ab ok.k275 rfl fun x hx=>?_
 unfold tH
 refine es 2000 ?_;(simp only [PF,RM,Ax,Aw,L9,O2,SR,LZ,seval])
 refine ⟨by omega,by omega,?_⟩
 refine An (σ:=Nat) (fun i=>i≤n) (fun i=>fr 95 [(0,.ptr 0 []),(1,W s),(4,.ptr 6 []),(5,.ptr 7 []),(20,.sl 2 [] 0 n 3),(21,.int .i64 n),(22,.int .i64 i)])
  (fun i=>[(0,Ax (.sl 2 [] 0 n 3) d (.map 3) (.map 1)),(2,.ar 3 n fun j=>Cu 4 (ps j)),(4,Aw 5 w.a w.b w.met),(5,Bd A9 Pr.zero w.ever),(6,.st 3 (.fcons 0 (W 0#64) (.fcons 1 .nilp (.fcons 2 .nilp .fnil)))),(7,Cu 4 (ps (bi ps s i)))]) (fun _=>8) (fun i=>n - i) 0 Aa ?_ ?_
 ·refine Ak.fr [0,1,2,3,4,5,6,118] [] hx AQ Aj ?_ ?_
  ·simp only [Int.natCast_zero,LY,seval]
  ·simp only [Ax,Aw,Cm,bi,seval]
   exact ⟨fun j _=>DT _ _ _ 4 4 rfl _,DT _ _ _ 4 4 rfl _⟩
 ·intro i hi
  refine es 2000 ?_
  by_cases hin:i=n
  ·subst hin
   have d0:((i:Int) < (i:Int))=False:=eq_false Aa
   generalize bi ps s i=b at *
   rw [hnl] at hC
   have hb:Cu 4 (ps b) = .st 3 (.fcons 0 (W (ps b).a) (.fcons 1 (.imm (mach (ps b).m.f (ps b).m.g (ps b).m.pc false (ps b).m.xt)) (.fcons 2 (.imm (.st 4 (.fcons 0 (Gx A9 Pr.zero (ps b).p) (.fcons 1 (.ptr 4 []) (.fcons 2 (Gx V.bool false (ps b).sl) (.fcons 3 (.lst 32 (ps b).n fun i=>dg ((ps b).q i)) .fnil)))))) .fnil))):=by unfold Cu CM;rw [hnl]
   simp only [CM] at hS
   have d32:((i:Int) < 32)=True:=eq_true Aa
   by_cases hz:σ.n=0
   ·have h1:Pw σ=Nh σ:=if_pos hz
    have h2:Qh σ=6:=if_pos hz
    simp only [h1,h2,Nh,Sh,AF,Jl,hv,hnl,Lt,Li] at hR
    (simp only [d0,hne,hb,C7,Ax,Aw,AN,Bg,Bu,seval])
    have zz:=@mach.eq_1;refine ofY (hC) ?_
    (simp only [mach,BA,seval])
    have zz:=CC @AD @AZ EZ;refine obY [4] [] (hS) ?_
    (simp only [BA,hT,mach,Am,seval])
    have zz:=Bc @mach.eq_1 EZ;refine FA [440,441,4,5,442,392] (hR) ?_
    (simp only [Dq,mach,Am,d32,ek,seval])
    have hP0:∀ H:Hp,MG H [392,440,441,442] 392=true→hget H 392=mach σ.m.f σ.m.g σ.m.pc σ.m.hl σ.m.xt→MG H [392,440,441,442] 440=true→hget H 440 = .st 4 (.fcons 0 (.map 441) (.fcons 1 (.ptr 4 []) (.fcons 2 (.map 442) (.fcons 3 (.nils) .fnil))))→Ac H 441=true→hget H 441=Bd A9 Pr.zero σ.w.pres→Ac H 442=true→hget H 442=Bd V.bool false σ.l→Ar H [0,1,2,3,4,5,1240] [392,440,441,442] (.lst 32 σ.n fun i=>dg (σ.q i)) (.nils) →
     Ar H [0,1,2,3,4,5,1240] [392,440,441,442] (Cu 4 ⟨(ps b).a + BitVec.ofNat 64 k,σ.m,σ.w.pres,σ.l,σ.n,σ.q⟩) (.st 3 (.fcons 0 (W ((ps b).a + BitVec.ofNat 64 k)) (.fcons 1 (.ptr 392 []) (.fcons 2 (.ptr 440 []) .fnil)))) :=
     fun H a1 a2 a3 a4 a5 a6 a7 a8 a9=>Nr (P:=⟨(ps b).a + BitVec.ofNat 64 k,σ.m,σ.w.pres,σ.l,σ.n,σ.q⟩) rfl a1 a2 a3 a4 rfl a5 a6 rfl a7 a8 a9
    refine ⟨by omega,Ap.mk hx [0,1,2,3,4,5,1240] [392,440,441,442] (Cu 4 ⟨(ps b).a + BitVec.ofNat 64 k,σ.m,σ.w.pres,σ.l,σ.n,σ.q⟩) (U0 i ps ⟨(ps b).a + BitVec.ofNat 64 k,σ.m,σ.w.pres,σ.l,σ.n,σ.q⟩ d σ.w) 7 Aj (by (simp only [DS,seval])) ?_ ?_ ⟨rfl,rfl,rfl⟩⟩
    ·simp only [DS,seval]
     exact hP0 _ rfl rfl rfl rfl rfl rfl rfl rfl (by simp only [Ar];exact hz)
    ·simp only [U0,Ax,Aw,Cm,seval]
     intro j hj
     by_cases hj1:j < i
     ·rw [if_pos hj1,if_pos hj1];exact DT _ _ _ 4 4 rfl _
     ·rw [if_neg hj1,if_neg hj1,if_pos Aa]
      exact hP0 _ rfl rfl rfl rfl rfl rfl rfl rfl (by simp only [Ar];exact hz)
   ·have h1:Pw σ=Sh 6 σ:=if_neg hz
    have h2:Qh σ=7:=if_neg hz
    simp only [h1,h2,Nh,Sh,AF,Jl,hv,hnl,Lt,Li] at hR
    (simp only [d0,hne,hb,C7,Ax,Aw,AN,Bg,Bu,seval])
    have zz:=@mach.eq_1;refine ofY (hC) ?_
    (simp only [mach,BA,seval])
    have zz:=CC @AD @AZ EZ;refine obY [4] [] (hS) ?_
    (simp only [BA,hT,mach,Am,seval])
    have zz:=Bc @mach.eq_1 EZ;refine FA [440,441,4,5,442,392] (hR) ?_
    (simp only [Dq,mach,Am,d32,ek,seval])
    have hP0:∀ H:Hp,MG H [392,440,441,442,664] 392=true→hget H 392=mach σ.m.f σ.m.g σ.m.pc σ.m.hl σ.m.xt→MG H [392,440,441,442,664] 440=true→hget H 440 = .st 4 (.fcons 0 (.map 441) (.fcons 1 (.ptr 4 []) (.fcons 2 (.map 442) (.fcons 3 (.sl 664 [] 0 σ.n 32) .fnil))))→Ac H 441=true→hget H 441=Bd A9 Pr.zero σ.w.pres→Ac H 442=true→hget H 442=Bd V.bool false σ.l→Ar H [0,1,2,3,4,5,1240] [392,440,441,442,664] (.lst 32 σ.n fun i=>dg (σ.q i)) (.sl 664 [] 0 σ.n 32) →
     Ar H [0,1,2,3,4,5,1240] [392,440,441,442,664] (Cu 4 ⟨(ps b).a + BitVec.ofNat 64 k,σ.m,σ.w.pres,σ.l,σ.n,σ.q⟩) (.st 3 (.fcons 0 (W ((ps b).a + BitVec.ofNat 64 k)) (.fcons 1 (.ptr 392 []) (.fcons 2 (.ptr 440 []) .fnil)))) :=
     fun H a1 a2 a3 a4 a5 a6 a7 a8 a9=>Nr (P:=⟨(ps b).a + BitVec.ofNat 64 k,σ.m,σ.w.pres,σ.l,σ.n,σ.q⟩) rfl a1 a2 a3 a4 rfl a5 a6 rfl a7 a8 a9
    refine ⟨by omega,Ap.mk hx [0,1,2,3,4,5,1240] [392,440,441,442,664] (Cu 4 ⟨(ps b).a + BitVec.ofNat 64 k,σ.m,σ.w.pres,σ.l,σ.n,σ.q⟩) (U0 i ps ⟨(ps b).a + BitVec.ofNat 64 k,σ.m,σ.w.pres,σ.l,σ.n,σ.q⟩ d σ.w) 7 Aj (by (simp only [DS,seval])) ?_ ?_ ⟨rfl,rfl,rfl⟩⟩
    ·simp only [DS,seval]
     exact hP0 _ rfl rfl rfl rfl rfl rfl rfl rfl ⟨⟨rfl,rfl⟩,rfl,trivial,rfl,by omega,fun q _=>(AW _ _ _ _ _).mpr (by rw [Nat.zero_add])⟩
    ·simp only [U0,Ax,Aw,Cm,seval]
     intro j hj
     by_cases hj1:j < i
     ·rw [if_pos hj1,if_pos hj1];exact DT _ _ _ 4 4 rfl _
     ·rw [if_neg hj1,if_neg hj1,if_pos Aa]
      exact hP0 _ rfl rfl rfl rfl rfl rfl rfl rfl ⟨⟨rfl,rfl⟩,rfl,trivial,rfl,by omega,fun q _=>(AW _ _ _ _ _).mpr (by rw [Nat.zero_add])⟩
  ·have d0:((i:Int) < (n:Int))=True:=eq_true Aa
   have d1:(0≤(i:Int))=True:=eq_true Aa
   have w1:IntKind.i64.wrap ((i:Int) + 1)=((i + 1:Nat):Int):=Bw
   by_cases c1:(ps i).a≤s
   ·by_cases c2:(ps (bi ps s i)).a < (ps i).a
    ·have e3:bi ps s (i + 1)=i:=by rw [bi,if_pos ⟨c1,c2⟩]
     (simp only [d0,d1,w1,c1,c2,Ax,Aw,Cu,CM,AN,Bg,Bu,LZ,seval])
     refine ⟨by omega,i + 1,by omega,by omega,?_⟩
     refine Ak.fr [0,1,2,3,4,5,6,7] [] hx AQ Aj ?_ ?_
     ·simp only [LY,seval]
     ·simp only [Ax,Aw,Cu,CM,e3,Cm,AD,AZ,dg,seval]
    ·have e3:bi ps s (i + 1)=bi ps s i:=by rw [bi,if_neg (fun h=>c2 h.2)]
     (simp only [d0,d1,w1,c1,c2,Ax,Aw,Cu,CM,AN,Bg,Bu,LZ,seval])
     refine ⟨by omega,i + 1,by omega,by omega,?_⟩
     refine Ak.fr [0,1,2,3,4,5,6,7] [] hx AQ Aj ?_ ?_
     ·simp only [LY,seval]
     ·simp only [Ax,Aw,Cu,CM,e3,Cm,AD,AZ,dg,seval]
   ·have e3:bi ps s (i + 1)=bi ps s i:=by rw [bi,if_neg (fun h=>c1 h.1)]
    (simp only [d0,d1,w1,c1,Ax,Aw,Cu,CM,AN,Bg,Bu,LZ,seval])
    refine ⟨by omega,i + 1,by omega,by omega,?_⟩
    refine Ak.fr [0,1,2,3,4,5,6,7] [] hx AQ Aj ?_ ?_
    ·simp only [LY,seval]
    ·simp only [Ax,Aw,Cu,CM,e3,Cm,AD,AZ,dg,seval]
def FW (p:BitVec 64):List (BitVec 64)→Option Nat
 | []=>none
 | q :: r=>if p=q then some 0 else (FW p r).map (· + 1)
def KY (cm:BitVec 64→Dg) (l:List (BitVec 64)):V:=.mp l.length (fun j=>W (l.getD j 0#64)) (fun j=>dg (cm (l.getD j 0#64)))
theorem Adj (p q:BitVec 64):AL .int (W p) (W q)=decide (p=q):=by
 simp only [W,AL]
 by_cases h:p=q
 ·subst h;simp
 ·rw [decide_eq_false h,decide_eq_false]
  intro h2;exact h (BitVec.eq_of_toNat_eq Aa)
theorem NY (p q:BitVec 64):AI true .int (W p) (W q)=True:=by simp [AI,W]
theorem Kx (p:BitVec 64):(W p).solid=true:=rfl
theorem PA (p:BitVec 64) (ks:Nat→V):∀ (l:List (BitVec 64)) (i:Nat),(∀ j,j < l.length→ks (i + j)=W (l.getD j 0#64))→Hf .int (W p) ks i l.length=(FW p l).map (i + ·)
 | [],_,_=>rfl
 | q :: r, i, h => by
   have h0:=h 0 B1
   simp only [Nat.add_zero,List.getD_cons_zero] at h0
   have ih:=PA p ks r (i + 1) (fun j hj=>by
    have:=h (j + 1) (by simpa using hj)
    simp only [List.getD_cons_succ] at this
    rw [← this];congr 1;omega)
   simp only [List.length_cons,Hf,h0,Adj,FW]
   by_cases hk:p=q
   ·simp [hk]
   ·simp only [hk,decide_false,SG,ih,Option.map_map]
    congr 1
    funext j
    simp only [Function.comp];omega
theorem MP (p:BitVec 64) (l:List (BitVec 64)):Hf .int (W p) (fun j=>W (l.getD j 0#64)) 0 l.length=FW p l:=by
 rw [PA p _ l 0 (fun j _=>by rw [Nat.zero_add])]
 cases FW p l <;> simp
theorem OE (p:BitVec 64):∀ (l:List (BitVec 64)) (i:Nat),FW p l=some i→l.getD i 0#64=p
 | [],_,h=>by cases h
 | q :: r, i, h => by
   rw [FW] at h
   by_cases hk:p=q
   ·rw [if_pos hk] at h
    cases h
    exact hk.symm
   ·rw [if_neg hk] at h
    cases hr:FW p r with
    | none=>rw [hr] at h;cases h
    | some k =>
      rw [hr] at h
      cases h
      exact OE p r k hr
theorem M5 (cm:BitVec 64→Dg) (z:Z) (hh:Bool) (l:List (BitVec 64)) (p:BitVec 64) (H:Hp) (i:Nat) (h:FW p l=some i):CH .int z true hh (KY cm l) (W p) H=⟨hh=true,.tup (.fcons 0 (dg (cm p)) (.fcons 1 (.bool true) .fnil)),H⟩:=by
 simp only [CH,KY,MP,h,Kx,NY,implies_true,Gw,if_true,OE p l i h]
theorem Mn (cm:BitVec 64→Dg) (z:Z) (hh:Bool) (l:List (BitVec 64)) (p:BitVec 64) (H:Hp) (h:FW p l=none):CH .int z true hh (KY cm l) (W p) H=⟨hh=true,.tup (.fcons 0 (z.v 0) (.fcons 1 (.bool false) .fnil)),H⟩:=by
 simp only [CH,KY,MP,h,Kx,NY,implies_true,Gw,if_true]
theorem Px (cm:BitVec 64→Dg) (hh:Bool) (l:List (BitVec 64)) (p:BitVec 64) (id:Nat) (H:Hp) (h:FW p l=none):GD .int hh (KY cm l) (W p) (dg (cm p)) id H=⟨hh=true,.tup .fnil,Co H id (KY cm (l ++ [p]))⟩:=by
 have e:KY cm (l ++ [p]) = .mp (l.length + 1) (fun j=>if j=l.length then W p else W (l.getD j 0#64)) (fun j=>if j=l.length then dg (cm p) else dg (cm (l.getD j 0#64))):=by
  simp only [KY,List.length_append,List.length_singleton,Mp]
  congr 1
  ·funext j;split <;> rfl
  ·funext j;split <;> rfl
 rw [e]
 simp only [GD,KY,MP,h,Kx,Dk,NY,Option.getD_none,implies_true,Gw]
theorem Ew (m:List Nat) (cm:BitVec 64→Dg) (l:List (BitVec 64)):(KY cm l).ren m=KY cm l:=by
 simp only [KY,V.ren,E9,W]
theorem Be (H:Hp) (m z:List Nat) (cm:BitVec 64→Dg) (l:List (BitVec 64)):Ar H m z (KY cm l) (KY cm l)=True:=by
 refine eq_true ?_
 simp only [KY,Ar,true_and]
 exact fun i _=>⟨by simp [Ar,W],(AW _ _ _ _ _).mpr rfl⟩
structure Pts (m0:Mc) (p0:List (Dg × Pr)) (n:Nat) (ps:Nat→Pt):Prop where
 pos:0 < n
 z:(ps 0).a=0#64
 b:∀ j,j < n→(ps j).a.toNat < 536870912
 x:∀ j,j < n→((ps j).m,(ps j).p)=xs m0 p0 (ps j).a.toNat
 k:∀ j,j < n→Cb (ps j).p
theorem PB {M:Seat} (ok:OkRc M) {m0:Mc} {p0:List (Dg × Pr)} (n:Nat) (hn2:n < 32) (ps:Nat→Pt) (h:Pts m0 p0 n ps) (d:Int) (w:WS) (s:BitVec 64) (hs:s.toNat < 536870912) :
 ∃ (P:Pt) (w':WS),P.a.toNat≤s.toNat∧(P.m,P.p)=xs m0 p0 s.toNat∧(P.m,P.p)=xs m0 p0 P.a.toNat∧Cb P.p ∧
  (Af M 275 [.ptr 0 [],W s] (tH n ps d w) 6 (Q3 (Cu 4 P) (tH n ps d w) 6) ∨
   (Af M 275 [.ptr 0 [],W s] (tH n ps d w) 6 (Q3 (Cu 4 P) (U0 n ps P d w') 7)∧Pts m0 p0 (n + 1) (fun j=>if j < n then ps j else P))):=by
 have hb:=Adn ps s n h.pos n (Nat.le_refl _)
 have h00:(ps 0).a≤s:=by rw [h.z,BitVec.le_def];exact Nat.zero_le _
 have hle:=WV ps s h00 n
 rw [BitVec.le_def] at hle
 have hx:=h.x _ hb
 by_cases h1:(ps (bi ps s n)).a=s
 ·exact ⟨_,w,by omega,by have e:=congrArg BitVec.toNat h1;rw [← e];exact hx,hx,h.k _ hb,.inl (Jb ok n h.pos hn2 ps d w s (.inl h1))⟩
 ·by_cases h2:(ps (bi ps s n)).m.hl=true
  ·refine ⟨_,w,hle,?_,hx,h.k _ hb,.inl (Jb ok n h.pos hn2 ps d w s (.inr h2))⟩
   obtain ⟨q,hq⟩:∃ q,s.toNat=(ps (bi ps s n)).a.toNat + q:=⟨s.toNat - (ps (bi ps s n)).a.toNat,by omega⟩
   rw [hq,Zr _ (by rw [← hx];exact h2)]
   exact hx
  ·obtain ⟨P,w',k,k1,k2,k3,k4,k5,k6⟩:=Uh ok n h.pos hn2 ps d w s h00 Aa h1 (by simpa using h2) (h.k _ hb)
   generalize bi ps s n=b at *
   have e0:(s - (ps b).a).toNat=s.toNat - (ps b).a.toNat:=BitVec.toNat_sub_of_le (by rw [BitVec.le_def];exact hle)
   rw [e0] at k1 k3
   have ea:P.a.toNat=(ps b).a.toNat + k:=by
    rw [k2,BitVec.toNat_add,BitVec.toNat_ofNat]
    omega
   have exP:(P.m,P.p)=xs m0 p0 P.a.toNat:=by
    rw [ea,YP,← hx];exact k4
   have exS:(P.m,P.p)=xs m0 p0 s.toNat:=by
    rcases k3 with k3 | k3
    ·obtain ⟨q,hq⟩:∃ q,s.toNat=P.a.toNat + q:=⟨s.toNat - P.a.toNat,by omega⟩
     rw [hq,Zr _ (by rw [← exP];exact k3)]
     exact exP
    ·rw [exP];congr 1;omega
   refine ⟨P,w',by omega,exS,exP,k5,.inr ⟨k6,⟨by omega,?_,fun j hj=>?_,fun j hj=>?_,fun j hj=>?_⟩⟩⟩
   ·rw [if_pos h.pos];exact h.z
   ·split
    ·exact h.b j (by assumption)
    ·omega
   ·split
    ·exact h.x j (by assumption)
    ·exact exP
   ·split
    ·exact h.k j (by assumption)
    ·exact k5
end Mv
