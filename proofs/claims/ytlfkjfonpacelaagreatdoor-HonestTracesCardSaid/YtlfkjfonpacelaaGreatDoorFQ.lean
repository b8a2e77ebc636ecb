/- A part. -/
import Derived.Test.YtlfkjfonpacelaaGreatDoorFP
set_option linter.all false
set_option maxRecDepth 20000
set_option maxHeartbeats 8000000
namespace Mv
open Go
structure OkHv (M:Seat):Prop where
 a:OkHa M
 o:OkOs M
 g:OkGr M
 k155:Av M 155 N9=true
 k254:Av M 254 Ahv=true
theorem Na {M:Seat} (ok:OkHv M) (pres:List (Dg × Pr)) (l:List (Nat→BitVec 64)) :
 Af M 155 [.ptr 0 [],W 0#64] (hB pres l) 13 (Q3 (Ah (DM (BP B3.f 13 0) B3.h [AY B3.f 0#64] Pr.zero) .nili) (hB pres l) 13):=by
 have hR:=ON ok.a.r 1
 have hP:=MD ok.o B3 pres 0
 rw [Al4] at hP
 dsimp only at hP
 have hpv:GX B3 none [AY B3.f 0#64] Pr.zero=Ah (DM (BP B3.f 13 0) B3.h [AY B3.f 0#64] Pr.zero) .nili:=rfl
 rw [hpv] at hP
 unfold hB
 generalize BO.com=C1 at *
 generalize BP B3.f 13 0=R0 at *
 generalize [AY B3.f 0#64]=L0 at *
 simp only [Mc.v,BO,mach] at hR
 simp only [Mc.v,Mc.h,B3,mach,DM,Hd.v,AP] at hP
 refine Ab ok.k155 rfl fun x hx=>?_
 refine es 2000 ?_;(simp only [N9,Rm,Ax,B4,CP,Mc.v,B3,BO,C7,seval])
 refine PX [0,1,2,3,4,5,6,7] [0,2,6] (hR) (by constructor <;> (try simp only [Ax,B4,LY,seval]) <;> first | exact q1 | (intro j hj;rcases (show j=0 ∨ j=1 by omega) with rfl | rfl <;> simp only [Nat.one_ne_zero,C2,LY,seval])) ?_
 (simp only [Ax,B4,Bx,BA,seval])
 repeat refine sd ?_
 have zz:=Bc @GC.eq_1 @Ce;refine Df [4,5,8,9,10] [4,5,8] (hP) ?_
 (simp only [Ld,GC,seval])
 refine Ap.mk hx [0,1,2,3,4,5,6,7,8,9,10,11,12] [] (Ah (DM R0 B3.h L0 Pr.zero) .nili) _ 13 Aj (by (simp only [DS,seval])) (by simp only [LV,BV,DM,Mc.h,B3,Hd.v,AP,dg,AU,Cm,seval]) ?_ ⟨rfl,rfl,rfl⟩
 simp only [K0,DN,Bx,Al,seval]
 intro j hj
 rcases (show j=0 ∨ j=1 by omega) with rfl | rfl <;> simp only [Nat.one_ne_zero,C2,LN,LP,V.ren,AM,A5,BJ,BT,seval,LY]
def hC (pres:List (Dg × Pr)) (l:List (Nat→BitVec 64)):Hp:=[(4,Ax (.sl 6 [] 0 2 3) 1 (.map 7) (.map 5)),(5,Ey l),(6,.ar 3 2 fun j=>if j=0 then B4 0#64 8 9 else B4 1#64 10 11),(7,K0 BO.com),(8,B3.v),(9,CP 12 13 14),(10,BO.v),(11,CP 15 13 16),(12,Bd A9 Pr.zero pres),(14,BD []),(15,Bd A9 Pr.zero pres),(16,BD [])]
def vwV (n:Nat) (own:Int):V:=.st 5 (.fcons 0 (.ptr 0 []) (.fcons 1 (.ptr 4 []) (.fcons 2 (.sl 18 [] 0 n 42) (.fcons 3 (.sl 19 [] 0 n 1) (.fcons 4 (.int .i64 own) .fnil)))))
theorem UX {M:Seat} (ok:OkHv M) (k359:Av M 359 TY=true) (pres:List (Dg × Pr)) (l:List (Nat→BitVec 64)) (G:Gs) (hD:G.D=1) (hn:G.n=1) (hp:(G.c 0).pos=1#64) (hv:(G.c 0).val=BO.com) :
 Af M 254 [.ptr 0 [],.ptr 4 []] (G.H ++ hC pres l) 17 (Q3 (Ah (.ptr 17 []) .nili) (G.H ++ hC pres l ++ [(17,vwV 1 0),(18,Dj 1 G.c),(19,.ar 1 1 fun _=>.bool true)]) 20):=by
 have hRu:=IL ok.g G.D G.l G.g G.s G.n
 have hLn:=MA ok.g G.D G.l G.g G.s G.n
 have hC0:=FQ ok.g G.D G.l G.g G.s G.n G.c 0 Aa
 have hT:=Fg ok.g.t.s.v.g.p k359 (D:=1) (k:=0) (i:=0) Aj Aj Aj
 rw [show pw 0 0=1#64 by decide,show BitVec.ofNat 64 (trI 1 0 0)=1#64 by decide] at hT
 have hA:=JG ok.a pres l
 rw [hD,hn] at hRu hLn hC0
 unfold hC
 unfold hB at hA
 generalize BO.com=C1 at *
 simp only [Mc.v,B3,BO,mach,Ax,B4,CP] at hA
 refine Ab ok.k254 rfl fun x hx=>?_
 refine es 2000 ?_;(simp only [Ahv,Af4,Gs.H,hD,hn,C4,Dc,AJ,Dj,Cl.v,BM,FC,Eo,Ax,B4,CP,Mc.v,B3,BO,C7,DX,seval])
 have z1:IntKind.i64.wrap 1=1:=rfl
 have zz:=F5 @C4.eq_1 @Dc.eq_1 @AJ.eq_1 @dg.eq_1;refine Qw [0,1,2] [0] (hRu) ?_
 (simp only [C4,Dc,AJ,Dj,Cl.v,BM,FC,Eo,Ax,B4,CP,LZ,seval])
 have zz:=F5 @C4.eq_1 @Dc.eq_1 @AJ.eq_1 @dg.eq_1;refine Df [0,1,2] [0] (hLn) ?_
 (simp only [C4,Dc,AJ,Dj,Cl.v,BM,FC,Eo,Ax,B4,CP,LZ,seval])
 refine Au ?_
 refine es 2000 ?_
 (simp only [C4,Dc,AJ,Dj,Cl.v,BM,FC,Eo,Ax,B4,CP,LZ,seval])
 have zz:=YF @C4.eq_1 @Dc.eq_1 @AJ.eq_1 @Dj.eq_1 @Cl.v.eq_1 @dg.eq_1;refine Df [0,1,2] [0,1] (hC0) ?_
 (simp only [BV,hp,hv,C4,Dc,AJ,Dj,Cl.v,BM,FC,Eo,Ax,B4,CP,seval])
 refine BC (hT) ?_
 (simp only [BV,C4,Dc,AJ,Dj,Cl.v,BM,FC,Eo,Ax,B4,CP,seval])
 refine PX [4,5,6,7,8,9,10,11,12,13,14,15,16] [4,5,6,7,8,9,10,11,12,14,15,16] (hA) (by constructor <;> (try simp only [K0,Al,DN,seval]) <;> first | exact q1 | (intro j hj;rcases (show j=0 ∨ j=1 by omega) with rfl | rfl <;> simp only [Nat.one_ne_zero,C2,LY,seval])) ?_
 (simp only [Dq,Bx,Ba,Am,decide_true,z1,K0,Nat.testBit,List.map_nil,List.map_cons,DX,C4,Dc,AJ,Dj,Cl.v,BM,FC,Eo,Ax,B4,CP,seval])
 repeat refine sd ?_
 refine Au ?_
 refine es 2000 ?_
 (simp only [z1,C4,Dc,AJ,Dj,Cl.v,BM,FC,Eo,Ax,B4,CP,LZ,seval])
 repeat refine sd ?_
 refine Ap.mk hx [0,1,2,3,4,5,6,7,8,9,10,11,12,13,14,15,16,497,1857,2017] [] (Ah (.ptr 17 []) .nili) _ 20 Aj (by (simp only [DS,seval])) (by simp only [LV,BV,seval,LY]) ?_ ⟨rfl,rfl,rfl⟩
 simp only [vwV,K0,DN,Bx,Al,C4,Dc,AJ,Dj,Cl.v,BM,FC,Eo,Ax,B4,CP,seval]
 refine ⟨fun j hj=>?_,fun j hj=>?_,fun j hj=>?_⟩
 ·rcases (show j=0 ∨ j=1 by omega) with rfl | rfl <;> simp only [Nat.one_ne_zero,C2,LN,LP,V.ren,AM,A5,BJ,BT,seval,LY]
 ·obtain rfl:j=0:=Aa
  simp only [if_true,hp,hv,LY,seval]
 ·rw [if_pos Aa]
def Gx {α:Type} (g:α→V) (d:α) (l:List (Dg × α)):V:=.fm l.length (fun j=>dg (l.getD j (Dg.zero,d)).1) (fun j=>g (l.getD j (Dg.zero,d)).2)
theorem Ta {α:Type} (H:Hp) (m z:List Nat) (g:α→V) (hg:∀ x,Ar H m z (g x) (g x)) (d:α) (l:List (Dg × α)):Ar H m z (Gx g d l) (Gx g d l) :=
 ⟨rfl,fun i _=>⟨(AW _ _ _ _ _).mpr rfl,hg _⟩⟩
theorem SJ {α:Type} (H:Hp) (m z:List Nat) (i:Nat) (g:α→V) (hg:∀ x,Ar H m z (g x) (g x)) (d:α) (l:List (Dg × α)) (h1:z.contains i=true) (h2:Ac H i=true) (h3:hget H i=Bd g d l):Ar H m z (Gx g d l) (.map i):=by
 unfold Gx
 simp only [Ar]
 refine ⟨?_,?_⟩
 ·unfold R9
  rw [h1,h2,h3];rfl
 ·rw [h3]
  exact ⟨rfl,fun i _=>⟨(AW _ _ _ _ _).mpr rfl,hg _⟩⟩
theorem SU {α:Type} (m:List Nat) (g:α→V) (hg:∀ x,(g x).ren m=g x) (d:α) (l:List (Dg × α)):(Gx g d l).ren m=Gx g d l:=by
 simp only [Gx,V.ren]
 congr 1
 funext j;exact hg _
theorem AD (H:Hp) (m z:List Nat) (l:List (Dg × Pr)):Ar H m z (Gx A9 Pr.zero l) (Gx A9 Pr.zero l)=True:=eq_true (Ta H m z A9 (fun _=>(C3 _ _ _ _ _).mpr rfl) Pr.zero l)
theorem AZ (H:Hp) (m z:List Nat) (l:List (Dg × Bool)):Ar H m z (Gx V.bool false l) (Gx V.bool false l)=True:=eq_true (Ta H m z V.bool (fun _=>rfl) false l)
theorem Ek (m:List Nat) (l:List (Dg × Pr)):(Gx A9 Pr.zero l).ren m=Gx A9 Pr.zero l:=SU m A9 (fun _=>rfl) Pr.zero l
theorem Fc (m:List Nat) (l:List (Dg × Bool)):(Gx V.bool false l).ren m=Gx V.bool false l:=SU m V.bool (fun _=>rfl) false l
theorem UI (H:Hp) (m z:List Nat) (l:List (Dg × Pr)):Bk H m z (Gx A9 Pr.zero l) (Gx A9 Pr.zero l)=True:=AD H m z l
theorem AN {α:Type} (g:α→V) (d:α) (l:List (Dg × α)):(Gx g d l).solid=true:=rfl
theorem Bg {α:Type} (g:α→V) (d:α) (l:List (Dg × α)):(Gx g d l).size=1:=rfl
theorem Bu {α:Type} (g:α→V) (d:α) (l:List (Dg × α)):(Gx g d l).isAgg=false:=rfl
theorem Aic (c:Bool) (l:List (Dg × Pr)):AI c (.nils 1) (Gx A9 Pr.zero l) .nilm=True:=by simp [AI,Gx]
theorem Af5 (l:List (Dg × Pr)):AL (.nils 1) (Gx A9 Pr.zero l) .nilm=false:=rfl
theorem Yh (t n:Nat) (l:List (Dg × Pr)) (H:Hp):Aa3 (.ifc t (Gx A9 Pr.zero l)) n H=⟨True,.ifc t (.map n),(n,Bd A9 Pr.zero l) :: H⟩:=rfl
theorem SO {α:Type} (g:α→V) (d:α) (l:List (Dg × α)):G2 (Gx g d l)=True:=by simp [G2,Gx,V.solid]
theorem Tf {α:Type} (g:α→V) (d:α) (l:List (Dg × α)) (i:Nat) (r:V):Jg (Gx g d l) i r = .fcons i (Gx g d l) r:=rfl
def CM (pres:List (Dg × Pr)) (K:Nat) (sl:List (Dg × Bool)) (n:Nat) (q:Nat→Dg):V:=.st 4 (.fcons 0 (Gx A9 Pr.zero pres) (.fcons 1 (.ptr K []) (.fcons 2 (Gx V.bool false sl) (.fcons 3 (.lst 32 n fun i=>dg (q i)) .fnil))))
theorem Ji {M:Seat} (ok:OkPr M) (l:List (Dg × Pr)) :
 Af M 276 [Gx A9 Pr.zero l] [] 0 (Q3 (.map 0) [(0,Bd A9 Pr.zero l)] 1):=by
 refine Ab ok.k276 rfl fun x hx=>?_
 refine es 2000 ?_;(simp only [Afl,Ai8,Aic,Af5,Yh,AN,Bg,Bu,SO,Tf,LZ,seval])
 have zz:=@Ce;exact Bz hx [80] ⟨rfl,rfl,rfl⟩
theorem IQ {M:Seat} (ok:OkPr M) (pres:List (Dg × Pr)) (sl:List (Dg × Bool)) (n:Nat) (q:Nat→Dg) :
 Af M 167 [.imm (CM pres 0 sl n q)] [] 1
  (Q3 (.ptr 1 []) [(1,.st 4 (.fcons 0 (.map 2) (.fcons 1 (.ptr 0 []) (.fcons 2 (.map 3) (.fcons 3 .nils .fnil))))),(2,Bd A9 Pr.zero pres),(3,BD [])] 4):=by
 refine Ab ok.k167 rfl fun x hx=>?_
 refine es 2000 ?_;(simp only [Aa5,Ac0,CM,AN,Bg,Bu,SO,Tf,LZ,seval])
 have zz:=CC @UI @AD @Ce;refine ofY (Ji ok pres) ?_
 (simp only [BA,seval])
 have zz:=Bc @BD.eq_1 @Ce;exact Bz hx [0,225,321,193] ⟨rfl,rfl,rfl⟩
theorem KP {M:Seat} (ok:OkHo M) (f g:Nat→BitVec 64) (pc:BitVec 64) (hl:Bool) (xt:BitVec 64) (n:Nat) (d:Int) (l:List (Nat→BitVec 64)) :
 Af M 274 [.ptr 0 [],.imm (mach f g pc hl xt)] [(0,Ax (.sl 2 [] 0 n 3) d (.map 3) (.map 1)),(1,Ey l)] 4 (Q3 (Ah (dg (BW (BP f 13 0) (Eg g pc hl xt))) .nili) [(0,Ax (.sl 2 [] 0 n 3) d (.map 3) (.map 1)),(1,Ey (oK f l 256))] 4):=by
 have hP:=fun i=>Mw ok.p (UZ f i) n d (oK f l i)
 have hR:=Gn ok.p.m 8 Aj (rtL f) (by rw [Gq];decide)
 rw [Jx f 8 0 Aj] at hR
 have hH:=BX ok.d f g pc hl xt
 have hJ:=Iw ok.p.m ok.d (BP f (5 + 8) 0) g pc hl xt
 simp only [mach,AP] at hH hJ
 refine Ab ok.k274 rfl fun x hx=>?_
 refine es 2000 ?_;(simp only [Aiz,Agc,Ax,C7,seval])
 have w32:IntKind.i64.wrap 32=32:=rfl
 have hP0:=hP 0
 have e00:∀ j,UZ f 0 j=f (0 + j):=fun j=>by rw [UZ,Nat.mul_zero]
 refine Au ?_
 refine es 2000 ?_
 (simp only [w32,Ax,C7,seval])
 repeat refine sd ?_
 have zz:=Vy @Ax.eq_1 @G3.eq_1 @UZ.eq_1 @oK.eq_1 @oK.eq_2 Nat.mul_zero @Nat.zero_add @Al;refine Df [0,1,2,3] [0,1] (hP0) ?_
 (simp only [Ax,Ba,w32,BA,seval])
 repeat refine sd ?_
 refine An (σ:=Nat) (fun i=>1≤i∧i≤256) (fun i=>fr 44 [(0,.ptr 0 []),(1,.imm (mach f g pc hl xt)),(4,.ptr 4 []),(5,.nili),(6,.sl 5 [] 0 i 32),(7,.int .i64 ((32 * i:Nat):Int))])
  (fun i=>[(0,Ax (.sl 2 [] 0 n 3) d (.map 3) (.map 1)),(1,Ey (oK f l i)),(4,dg Dg.zero),(5,.ar 32 i fun j=>dg (BP f 5 j))]) (fun _=>6) (fun i=>256 - i) 1 ⟨by omega,by omega⟩ ?_ ?_
 ·refine Ak.fr [0,1,2,3,4,308] [] hx AQ Aj ?_ ?_
  ·simp only [mach,Nat.mul_one,seval,Int.cast_ofNat_Int,LY,reduceCtorEq]
  ·simp only [Ax,oK,Al,mach,J8 f 0 Aj,dg,Dg.at_zero,LY,seval]
   intro j hj
   obtain rfl:j=0:=Aa
   simp only [if_true,LY,seval]
 ·rintro i ⟨h1,hi⟩
  refine es 2000 ?_
  by_cases h256:i=256
  ·subst h256
   have d0:(((32 * 256:Nat):Int) < 8192)=False:=eq_false Aa
   (simp only [d0,Ax,C7,seval])
   refine cpK (hR) (by (try simp only [row,Gq,IS,dg,LY,seval]) <;> first | exact q1 | (intro j hj q _;rw [Sn f j hj])) (by simp only [row,Gq,IS,dg,LX]) ?_
   (simp only [BV,Ax,mach,seval])
   have zz:=Fw @dg.eq_1 @A7.eq_1 @A7.eq_2 @A7.eq_3 @A7.eq_4 @A7.eq_5 @A7.eq_6 @A7.eq_7 @A7.eq_8 @A7.eq_9 @A7.eq_10 @A7.eq_11;refine CV (hH) ?_
   (simp only [BV,Ax,mach,seval])
   have zz:=@dg.eq_1;refine CV (hJ) ?_
   (simp only [Ax,C7,seval])
   have zz:=F5 @Ax.eq_1 @Al @dg.eq_1 @Ah.eq_1;exact Bz hx [0,1,2,3] ⟨rfl,rfl,rfl⟩
  ·have d0:(((32 * i:Nat):Int) < 8192)=True:=eq_true Aa
   have d1:(0≤((32 * i:Nat):Int))=True:=eq_true Aa
   have w3:IntKind.i64.wrap (((32 * i:Nat):Int) + 32)=((32 * (i + 1):Nat):Int):=Bw
   have hPi:=hP i
   (simp only [d0,d1,w3,Ax,C7,seval])
   repeat refine sd ?_
   have zz:=F5 @Ax.eq_1 @G3.eq_1 @UZ.eq_1 @Al;refine Df [0,1,2,3] [0,1] (hPi) ?_
   (simp only [w3,Ax,Ba,BA,seval])
   repeat refine sd ?_
   refine ⟨i + 1,by omega,by omega,by omega,?_⟩
   refine Ak.fr [0,1,2,3,4,246] [] hx AQ Aj ?_ ?_
   ·simp only [mach,LY,seval]
   ·simp only [Ax,oK,Al,mach,J8 f i Aa,dg,LY,seval]
    intro j hj
    by_cases hji:j < i
    ·simp only [hji,if_true,LY,seval]
    ·obtain rfl:j=i:=Aa
     simp only [Nat.lt_irrefl,Nat.sub_self,C2,LY,seval]
variable {M:Seat}
def F9 (pres:List (Dg × Pr)) (sl:List (Dg × Bool)) (nq:Nat) (qq:Nat→Dg) (lv:V) (pre:Pr):V:=.st 67 (.fcons 0 (.ptr 1 []) (.fcons 1 (.imm (CM pres 2 sl nq qq)) (.fcons 2 lv (.fcons 3 (A9 pre) .fnil))))
theorem QV (okA:OkM M) (ok:OkPr M) (f g:Nat→BitVec 64) (pc:BitVec 64) (hl:Bool) (xt:BitVec 64) (pre:Pr) (pres:List (Dg × Pr)) (sl:List (Dg × Bool)) (nq:Nat) (qq:Nat→Dg) (a:BitVec 64) (ha:¬ 8192#64≤a) :
 Af M 596 [.ptr 0 [],W a] [(0,F9 pres sl nq qq .nils pre),(1,mach f g pc hl xt)] 3
  (Q3 (Ah (W (f a.toNat)) .nili) [(0,F9 pres sl nq qq (.sl 3 [] 0 1 2) pre),(1,mach f g pc hl xt),(3,.ar 2 1 (Dp [AY f a]))] 4):=by
 refine Ab ok.k596 rfl fun x hx=>?_
 refine es 2000 ?_;(simp only [RZ,QS,F9,LZ,seval])
 have zz:=Bc @W.eq_1 @mach.eq_1;refine Ia (Dz okA f g pc hl xt a.toNat (pfl a ha)) ?_
 (simp only [BV,seval])
 refine Ap.mk hx [0,1,2,499] [115] (Ah (W (f a.toNat)) .nili) [(0,F9 pres sl nq qq (.sl 3 [] 0 1 2) pre),(1,mach f g pc hl xt),(3,.ar 2 1 (Dp [AY f a]))] 4 Aj (by (simp only [DS,seval])) (by (simp only [Oh,seval])) ?_ ⟨rfl,rfl,rfl⟩
 simp only [F9,CM,AD,AZ,Cm,seval,Gw]
 intro i hi
 obtain rfl:i=0:=Aa
 exact EM f a BF rfl
theorem Mt (okA:OkM M) (ok:OkPr M) (f g:Nat→BitVec 64) (pc:BitVec 64) (hl:Bool) (xt:BitVec 64) (pre:Pr) (pres:List (Dg × Pr)) (sl:List (Dg × Bool)) (nq:Nat) (qq:Nat→Dg) (l:List Pf) (hL:l.length≤100) (a:BitVec 64) (ha:¬ 8192#64≤a) :
 Af M 596 [.ptr 0 [],W a] [(0,F9 pres sl nq qq (.sl 3 [] 0 l.length 2) pre),(1,mach f g pc hl xt),(3,.ar 2 l.length (Dp l))] 4
  (Q3 (Ah (W (f a.toNat)) .nili) [(0,F9 pres sl nq qq (.sl 4 [] 0 (l ++ [AY f a]).length 2) pre),(1,mach f g pc hl xt),(4,.ar 2 (l ++ [AY f a]).length (Dp (l ++ [AY f a])))] (4 + 1)):=by
 refine Ab ok.k596 rfl fun x hx=>?_
 refine es 2000 ?_;(simp only [RZ,QS,F9,LZ,seval])
 have zz:=CC @W.eq_1 @mach.eq_1 @AU;refine Ia (Dz okA f g pc hl xt a.toNat (pfl a ha)) ?_
 (simp only [BV,seval])
 repeat refine sd ?_
 refine Ap.mk hx [0,1,2,3,500] [116] (Ah (W (f a.toNat)) .nili) [(0,F9 pres sl nq qq (.sl 4 [] 0 (l ++ [AY f a]).length 2) pre),(1,mach f g pc hl xt),(4,.ar 2 (l ++ [AY f a]).length (Dp (l ++ [AY f a])))] 5 Aj (by (simp only [DS,seval])) (by (simp only [Oh,seval])) ?_ ⟨rfl,rfl,rfl⟩
 have e0:(l ++ [AY f a]).length=l.length + 1:=B1
 simp only [e0,F9,CM,AD,AZ,Cm,seval,Gw]
 intro i hi
 by_cases h:i < l.length
 ·rw [if_pos h]
  have:Dp (l ++ [AY f a]) i=Dp l i:=by simp only [Dp,List.getD_eq_getElem?_getD,List.getElem?_append_left h]
  rw [this];exact (AU _ _ _ _ _).mpr trivial
 ·obtain rfl:i=l.length:=Aa
  have:Dp (l ++ [AY f a]) l.length=pfV (AY f a):=by simp only [Dp,List.getD_eq_getElem?_getD,List.getElem?_append_right (Nat.le_refl _),Nat.sub_self];rfl
  rw [if_neg h,Nat.sub_self,if_pos rfl,this]
  exact EM f a BF rfl
theorem Vd (okA:OkM M) (ok:OkPr M) (f g:Nat→BitVec 64) (pc:BitVec 64) (hl:Bool) (xt:BitVec 64) (pre:Pr) (pres:List (Dg × Pr)) (sl:List (Dg × Bool)) (nq:Nat) (qq:Nat→Dg) (l:List Pf) (hL:l.length≤100) (a v:BitVec 64) (ha:¬ 8192#64≤a) :
 Af M 597 [.ptr 0 [],W a,W v] [(0,F9 pres sl nq qq (.sl 3 [] 0 l.length 2) pre),(1,mach f g pc hl xt),(3,.ar 2 l.length (Dp l))] 4
  (Q3 .nili [(0,F9 pres sl nq qq (.sl 4 [] 0 (l ++ [AY f a]).length 2) pre),(1,mach (Ig f a.toNat v) g pc hl xt),(4,.ar 2 (l ++ [AY f a]).length (Dp (l ++ [AY f a])))] (4 + 1)):=by
 refine Ab ok.k597 rfl fun x hx=>?_
 have ha':=pfl a ha
 have hR:=Mt okA ok f g pc hl xt pre pres sl nq qq l hL a ha
 generalize l ++ [AY f a]=l' at *
 refine es 2000 ?_;(simp only [Aad,Abk,LZ,seval])
 have zz:=YF @F9.eq_1 @CM.eq_1 @AD @AZ @mach.eq_1 To;refine Df [0,1,2,3] [0,1,3] (hR) ?_
 (simp only [Ld,F9,CM,Ek,Fc,mach,seval])
 repeat refine sd ?_
 have zz:=N8 Q5 To @CM.eq_1 @AD @AZ;exact Bz hx [0,1,2,3,52] ⟨rfl,rfl,rfl⟩
theorem Ud {M:Seat} (ok:OkPr M) (okO:OkO M) (f g:Nat→BitVec 64) (pc:BitVec 64) (hl:Bool) (xt:BitVec 64) (pre:Pr) (pres:List (Dg × Pr)) (sl:List (Dg × Bool)) (nq:Nat) (qq:Nat→Dg) (l:List Pf) (h:Dg) :
 Af M 595 [.ptr 0 [],dg h] [(0,F9 pres sl nq qq (.sl 3 [] 0 l.length 2) pre),(1,mach f g pc hl xt),(3,.ar 2 l.length (Dp l))] 4
  (Q3 (Ry (Dt h pres)) [(0,F9 pres sl nq qq (.sl 3 [] 0 l.length 2) (Q0 (Dt h pres))),(1,mach f g pc hl xt),(3,.ar 2 l.length (Dp l))] 4):=by
 refine Ab ok.k595 rfl fun x hx=>?_
 have hC:=IQ ok pres sl nq qq
 have hG:=Ix okO pres h
 refine es 2000 ?_;(simp only [Abi,Zu,F9,LZ,seval])
 have zz:=F5 @CM.eq_1 @AD @AZ @Ce;refine Qw [2] [] (hC) ?_
 (simp only [Am,BA,seval])
 cases ho:Dt h pres with
 | none =>
   rw [ho] at hG
   simp only [Dh] at hG
   have zz:=Bc @Ay @Ce;refine Qw [324,325,2,326] [324,325,326] (hG) ?_
   (simp only [Dq,N3,seval])
   have zz:=ET @Ry.eq_1 @Ry.eq_2 @Q0.eq_1 @Q0.eq_2 @Fk To @CM.eq_1 @AD @AZ Vw @LM;exact Bz hx [0,1,2,3] ⟨rfl,rfl,rfl⟩
 | some p =>
   rw [ho] at hG
   simp only [Dh] at hG
   have zz:=Bc @Ay @Ce;refine Qw [324,325,2,326] [324,325,326] (hG) ?_
   (simp only [Dq,N3,seval])
   have zz:=Aje @Ry.eq_1 @Ry.eq_2 @Q0.eq_1 @Q0.eq_2 @Fk To @CM.eq_1 @AD @AZ @LM;exact Bz hx [0,1,2,3] ⟨rfl,rfl,rfl⟩
def Kp (g:Nat→BitVec 64) (pc:BitVec 64) (hl:Bool) (xt:BitVec 64) (pres:List (Dg × Pr)) (sl:List (Dg × Bool)) (nq:Nat) (qq:Nat→Dg) (s:Ps) (b:Nat):Hp :=
 [(0,F9 pres sl nq qq (.sl b [] 0 s.l.length 2) s.pre),(1,mach s.f g pc hl xt),(b,.ar 2 s.l.length (Dp s.l))]
def YX (g:Nat→BitVec 64) (pc:BitVec 64) (hl:Bool) (xt:BitVec 64) (pres:List (Dg × Pr)) (sl:List (Dg × Bool)) (nq:Nat) (qq:Nat→Dg) (s:Ps):Hp :=
 [(0,F9 pres sl nq qq .nils s.pre),(1,mach s.f g pc hl xt)]
theorem MV (g:Nat→BitVec 64) (pc:BitVec 64) (hl:Bool) (xt:BitVec 64) (pres:List (Dg × Pr)) (sl:List (Dg × Bool)) (nq:Nat) (qq:Nat→Dg) (s:Ps) (b b':Nat) (H:Hp) (m z:List Nat) (hm:∀ i,i < 3→m[i]?=some i) (hb:m[b']?=some b)
 (hH:∀ i,Ac (Kp g pc hl xt pres sl nq qq s b) i=true→Ac H i=true∧hget H i=hget (Kp g pc hl xt pres sl nq qq s b) i) (hk:3≤b):Bq H m z (Kp g pc hl xt pres sl nq qq s b'):=by
 have n0:¬ 0=b:=Aa
 have n1:¬ 1=b:=Aa
 have h0:=hH 0 rfl
 have h1:=hH 1 rfl
 have h4:=hH b (by simp [Kp,Ac])
 have g4:hget (Kp g pc hl xt pres sl nq qq s b) b = .ar 2 s.l.length (Dp s.l):=by simp only [Kp,hget,n0,n1,C2]
 rw [g4] at h4
 simp only [Kp,hget,if_true,seval] at h0 h1
 simp only [Kp,Bq,hm 0 Aa,hm 1 Aa,hb,h0,h1,h4,Gw]
 refine ⟨?_,AA ..,?_⟩
 ·simp only [F9,CM,Ar,hm 1 Aa,hm 2 Aa,hb,Gw,C3,AD,AZ]
  exact fun i _=>(AW _ _ _ _ _).mpr rfl
 ·simp only [Ar,true_and]
  exact fun i _=>(AU H m z s.l i).mpr trivial
theorem Sx (g:Nat→BitVec 64) (pc:BitVec 64) (hl:Bool) (xt:BitVec 64) (pres:List (Dg × Pr)) (sl:List (Dg × Bool)) (nq:Nat) (qq:Nat→Dg) (s:Ps) (H:Hp) (m z:List Nat) (hm:∀ i,i < 3→m[i]?=some i)
 (hH:∀ i,Ac (YX g pc hl xt pres sl nq qq s) i=true→Ac H i=true∧hget H i=hget (YX g pc hl xt pres sl nq qq s) i):Bq H m z (YX g pc hl xt pres sl nq qq s):=by
 have h0:=hH 0 rfl
 have h1:=hH 1 rfl
 simp only [YX,hget,if_true,seval] at h0 h1
 simp only [YX,Bq,hm 0 Aa,hm 1 Aa,h0,h1,Gw]
 refine ⟨?_,AA ..⟩
 ·simp only [F9,CM,Ar,hm 1 Aa,hm 2 Aa,Gw,C3,AD,AZ]
  exact fun i _=>(AW _ _ _ _ _).mpr rfl
theorem Eu (g:Nat→BitVec 64) (pc:BitVec 64) (hl:Bool) (xt:BitVec 64) (pres:List (Dg × Pr)) (sl:List (Dg × Bool)) (nq:Nat) (qq:Nat→Dg) (s:Ps) (b i:Nat) (h:Ac (Kp g pc hl xt pres sl nq qq s b) i=true):i < 2 ∨ i=b:=by
 simp only [Kp,Og,beq_iff_eq,Bool.or_false] at h;omega
theorem Nt (g:Nat→BitVec 64) (pc:BitVec 64) (hl:Bool) (xt:BitVec 64) (pres:List (Dg × Pr)) (sl:List (Dg × Bool)) (nq:Nat) (qq:Nat→Dg) (s:Ps) (i:Nat) (h:Ac (YX g pc hl xt pres sl nq qq s) i=true):i < 2:=by
 simp only [YX,Og,beq_iff_eq,Bool.or_false] at h;omega
theorem OT (g:Nat→BitVec 64) (pc:BitVec 64) (hl:Bool) (xt:BitVec 64) (pres:List (Dg × Pr)) (sl:List (Dg × Bool)) (nq:Nat) (qq:Nat→Dg) (s:Ps) (b:Nat) (hb:3≤b):A5 (Kp g pc hl xt pres sl nq qq s b) [0,1,b]=[]:=by
 have n0:¬ b=0:=Aa
 have n1:¬ b=1:=Aa
 have n0':¬ 0=b:=Aa
 have n1':¬ 1=b:=Aa
 simp only [A5,Kp,BJ,n0,n1,n0',n1',C2,seval]
theorem XA {b:Nat} (hb:3≤b):([0,1,2,b]:List Nat).Nodup:=by
 rw [show ([0,1,2,b]:List Nat)=[0,1,2] ++ [b] from rfl,List.nodup_append]
 refine ⟨by decide,by simp,fun a ha c hc=>?_⟩
 simp only [Oj] at ha hc
 omega
def Af8 {M:Seat} (okA:OkM M) (okO:OkO M) (ok:OkPr M) (g:Nat→BitVec 64) (pc:BitVec 64) (hl:Bool) (xt:BitVec 64) (pres:List (Dg × Pr)) (sl:List (Dg × Bool)) (nq:Nat) (qq:Nat→Dg):MemI M where
 σ:=Ps
 t:=422
 ht:=.inl rfl
 k0:=3
 kk:=4
 hk:=Aa
 E s b:=Kp g pc hl xt pres sl nq qq s b
 E0 s:=YX g pc hl xt pres sl nq qq s
 mm:=Hk pres
 Z s:=s.l=[]
 len s:=s.l.length
 lr s a:=by simp [Hk,prR]
 lw s a v:=by simp [Hk,prW]
 lp s h:=Aez
 lz s h:=by simp [h]
 hids s b i h:=by rcases Eu g pc hl xt pres sl nq qq s b i h with h | h <;> omega
 hids0 s i h:=by have:=Nt g pc hl xt pres sl nq qq s i h;omega
 sim0 s H m z hm hH:=Sx g pc hl xt pres sl nq qq s H m z hm hH
 simE s b b' H m z hk hm hb hH:=MV g pc hl xt pres sl nq qq s b b' H m z hm hb hH hk
 c0 {f us us' v s s'} own {n K} hr hus hv ho hK:=by
  refine Dm (E':=Kp g pc hl xt pres sl nq qq s' n) [0,1,2] [0,1] hr ?_ B1 Aj ⟨rfl,by omega⟩ (fun i hi=>?_) ?_ (hus _ _ _ rfl) (Sx g pc hl xt pres sl nq qq s _ _ _ (fun i hi=>?_) (Dd fun i hi=>ho.no (by have:=Nt g pc hl xt pres sl nq qq s i hi;omega))) rfl rfl hv (fun i hi=>?_) hK
  ·intro id i h1 h2
   have h:=Nt g pc hl xt pres sl nq qq s id h1
   have:id=0 ∨ id=1:=Aa
   rcases this with rfl | rfl <;> (obtain rfl:=Option.some.inj h2;simp)
  ·simp only [Oj] at hi
   rcases hi with rfl | rfl <;> exact ⟨rfl,ho.no Aa⟩
  ·exact fun i hi=>by
    have h:([0,1,2]:List Nat).all (fun i=>Ac (YX g pc hl xt pres sl nq qq s) i || Gu [0,1] (YX g pc hl xt pres sl nq qq s) i)=true:=BF
    have:=List.all_eq_true.1 h i hi
    simpa using this
  ·have:i=0 ∨ i=1 ∨ i=2:=Aa
   rcases this with rfl | rfl | rfl <;> rfl
  ·rcases Eu g pc hl xt pres sl nq qq s' n i hi with h | h <;> exact ho.no Aa
 ck {f us us' v s s' b} own {n K} hr hus hv hb ho hK:=by
  have hids:∀ i,i ∈ ([0,1,b]:List Nat)→Ac (Kp g pc hl xt pres sl nq qq s b) i=true∧Ac own i=false:=fun i hi=>by
   simp only [Oj] at hi
   rcases hi with rfl | rfl | rfl
   ·exact ⟨rfl,ho.no Aa⟩
   ·exact ⟨rfl,ho.no Aa⟩
   ·exact ⟨by simp [Kp,Ac],ho.no Aa⟩
  refine Dm (E':=Kp g pc hl xt pres sl nq qq s' n) [0,1,2,b] [0,1,b] hr ?_ B1 (XA hb) ⟨rfl,by omega⟩ hids ?_ (hus _ _ _ rfl) (MV g pc hl xt pres sl nq qq s b 3 _ _ _ (fun i hi=>?_) rfl (Dd fun i hi=>ho.no (by have:=Eu g pc hl xt pres sl nq qq s b i hi;omega)) hb) rfl (OT g pc hl xt pres sl nq qq s b hb) hv (fun i hi=>?_) hK
  ·intro id i h1 h2
   have h:=Eu g pc hl xt pres sl nq qq s 3 id h1
   have:id=0 ∨ id=1 ∨ id=3:=Aa
   rcases this with rfl | rfl | rfl <;> (obtain rfl:=Option.some.inj h2;simp)
  ·intro i hi
   by_cases h5:i ∈ ([0,1,b]:List Nat)
   ·exact .inl (hids i h5).1
   ·right
    have hj:i=2:=by
     simp only [Oj] at hi h5
     omega
    refine List.any_eq_true.2 ⟨0,by simp,?_⟩
    subst hj;simp [Kp,Ac,hget,F9,CM,Ec,V.solid,A9]
  ·have:i=0 ∨ i=1 ∨ i=2:=Aa
   rcases this with rfl | rfl | rfl <;> rfl
  ·rcases Eu g pc hl xt pres sl nq qq s' n i hi with h | h <;> exact ho.no Aa
 cu {f us us' v s s' b} own {n K} hr hus hv hb ho hK:=by
  have hids:∀ i,i ∈ ([0,1,b]:List Nat)→Ac (Kp g pc hl xt pres sl nq qq s b) i=true∧Ac own i=false:=fun i hi=>by
   simp only [Oj] at hi
   rcases hi with rfl | rfl | rfl
   ·exact ⟨rfl,ho.no Aa⟩
   ·exact ⟨rfl,ho.no Aa⟩
   ·exact ⟨by simp [Kp,Ac],ho.no Aa⟩
  refine Dm (E':=Kp g pc hl xt pres sl nq qq s' b) [0,1,2,b] [0,1,b] hr ?_ B1 (XA hb) ⟨rfl,by omega⟩ hids ?_ (hus _ _ _ rfl) (MV g pc hl xt pres sl nq qq s b 3 _ _ _ (fun i hi=>?_) rfl (Dd fun i hi=>ho.no (by have:=Eu g pc hl xt pres sl nq qq s b i hi;omega)) hb) rfl (OT g pc hl xt pres sl nq qq s b hb) hv (fun i hi=>?_) hK
  ·intro id i h1 h2
   have h:=Eu g pc hl xt pres sl nq qq s 3 id h1
   have:id=0 ∨ id=1 ∨ id=3:=Aa
   rcases this with rfl | rfl | rfl <;> (obtain rfl:=Option.some.inj h2;simp)
  ·intro i hi
   by_cases h5:i ∈ ([0,1,b]:List Nat)
   ·exact .inl (hids i h5).1
   ·right
    have hj:i=2:=by
     simp only [Oj] at hi h5
     omega
    refine List.any_eq_true.2 ⟨0,by simp,?_⟩
    subst hj;simp [Kp,Ac,hget,F9,CM,Ec,V.solid,A9]
  ·have:i=0 ∨ i=1 ∨ i=2:=Aa
   rcases this with rfl | rfl | rfl <;> rfl
  ·rcases Eu g pc hl xt pres sl nq qq s' b i hi with h | h <;> exact ho.no Aa
 fr:=596
 fw:=597
 fp:=595
 mr:=ok.m0
 mw:=ok.m1
 mp:=ok.m2
 rr0 s a hz ha:=by
  obtain ⟨f,l,pre⟩:=s
  have hz:l=[]:=hz
  subst hz
  exact QV okA ok f g pc hl xt pre pres sl nq qq a ha
 rr s a hL ha:=Mt okA ok s.f g pc hl xt s.pre pres sl nq qq s.l hL a ha
 rw s a v hL ha:=Vd okA ok s.f g pc hl xt s.pre pres sl nq qq s.l hL a v ha
 rp s h:=by
  have hP:=Ud ok okO s.f g pc hl xt s.pre pres sl nq qq s.l h
  show Af M 595 _ _ _ (Q3 (Ah (A9 (Ql pres s h).1) (Cr (Ql pres s h).2.1)) (Kp g pc hl xt pres sl nq qq (Ql pres s h).2.2 3) (4 + 1))
  refine up1 ?_
  unfold Ql
  cases hk:Dt h pres with
  | none=>rw [hk] at hP;exact hP
  | some p=>rw [hk] at hP;exact hP
end Mv
